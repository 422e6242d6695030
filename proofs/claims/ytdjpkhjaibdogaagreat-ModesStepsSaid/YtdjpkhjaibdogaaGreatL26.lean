/-
  Lemmas towards ModesSteps (joined texts: BM, BN, CA).
  Conditions: none.
-/
import Derived.Test.YtdjpkhjaibdogaaGreatL01
import Derived.Test.YtdjpkhjaibdogaaGreatL02
import Derived.Test.YtdjpkhjaibdogaaGreatL25
import Derived.Test.YtdjpkhjaibdogaaGreatL18
set_option linter.unusedSimpArgs false
set_option linter.unusedVariables false
set_option maxRecDepth 100000
set_option maxHeartbeats 8000000
namespace Go.Proofs.YtdjpkhjaibdogaaGreat
open Go Go.SX
attribute [local congr] ite_congr
theorem UF {P:Program} {f:Nat} {args:List AV} {r:AV} (h:C6 P f args r):∃ F,VOk P f F∧F args=some r:=by
 refine ⟨fun a=>open Classical in if a=args then some r else none,?_,by simp⟩
 intro a v hv
 simp only at hv
 split at hv
 ·rename_i e; subst e; cases hv; exact h
 ·cases hv
theorem Aod {P:Program} {f:Nat} {args:List AV} {r:AV} (h:H5 P f args r):∃ F,FOk P f F∧F args=some r:=by
 refine ⟨fun a=>open Classical in if a=args then some r else none,?_,by simp⟩
 intro a v hv
 simp only at hv
 split at hv
 ·rename_i e; subst e; cases hv; exact h
 ·cases hv
structure Tq where
 hs:List Int
 ws:List (Int × Int)
 n:Nat
 v:Nat
def tqH (c:Cd) (r:Tq):List Blk:=[⟨true,0,36,7,[BP c],false⟩,⟨true,1,3,1,r.hs.map (kA .i64),false⟩,⟨true,r.v,218,2,r.ws.map UE,false⟩]
theorem Tm {α:Type} {ws:List α} {n:Nat} (h:n≤ws.length) (l:List α):(ws.take n++l).take (n+l.length)=ws.take n++l:=lx118 (by simp; omega)
theorem O9 (c:Cd) (hq:Fit c) (hLd:Lead c):C6 Tryz.prog 103 [BP c] (.tu [.jk,bA (Jd c)]):=by
 obtain ⟨q1,q2,q3,q4,q5,q6,q7,q8⟩:=hq
 refine BW (Aj (lit:=false) (pm:=fun _=>none) (.cons Acq .nil) (.cons Bdk .nil) .nil .nil) rfl Tryz.func103 rfl (by decide) (by kernel_rfl) (by simp [bA,AV.noref,norefs]) ?_
 simp only [Tryz.f103,Af,lx53,lx63,Nat.reduceAdd,Nat.reduceSub,List.replicate]
 have hsz:decide ((c.ins.length:Int) * 8≤140737488355328)=true:=Ae
 have hsz2:decide ((c.ins.length:Int)≤(c.ins.length:Int))=true:=Ae
 have g0:decide ((0:Int)≤(c.ins.length:Int))=true:=Ae
 refine Aa ?_
 refine Jk (a3 hsz hsz2 @Ab) ?_
 have hst:=Akb c
 obtain ⟨n,hn⟩:∃ n,c.ins.length=n:=⟨_,rfl⟩
 simp only [hn] at hsz hsz2 g0 hst ⊢
 refine Al (σ:=Nat) (fun k cnt=>⟨Bn 0 123 [(1,.pt 0 0 0 0),(4,.sl 1 1 0 n),(5,.sc (.int .i64 k))],
   [⟨true,0,36,7,[BP c],false⟩,⟨true,1,3,1,(List.replicate k (-1)++List.replicate (n - k) 0).map (kA .i64),false⟩],cnt⟩)
  (fun k=>k≤n) (fun k=>n - k) 0 (Bu _) ?_ ?_ rfl ?_
 ·exact Gn
 ·simp (maxSteps:=10000000) only [AY,AW,AB,Ab,List.map_replicate]
 rintro k cnt hk ih
 by_cases hk':k < n
 ·exact Ay8
 obtain rfl:k=n:=Ah
 clear ih hk hk' hsz hsz2 g0
 have h1:decide ((k:Int) < (k:Int))=false:=Bc
 rw [Mx,List.replicate_zero,lx66]
 obtain ⟨R,hR⟩:∃ R,List.replicate k (-1:Int)=R:=⟨_,rfl⟩
 rw [hR] at hst ⊢
 have hRl:R.length=k:=by rw [←hR]; simp
 refine Aa ?_
 refine Bq ?_
 simp (maxSteps:=10000000) +contextual -implicitDefEqProofs only [AY,AW,St.put,↓reduceIte,Dc,CK,Ab,h1]
 refine Ao (T':=Bn 0 123 [(1,.pt 0 0 0 0),(4,.sl 1 1 0 k),(6,.vw true []),(7,.sc (.int .i64 ((0:Nat):Int)))]) ?_ (Aw _) (Ar _) ?_
 ·exact Gn
 refine Fg (T':=Bn 0 123 [(1,.pt 0 0 0 0),(4,.sl 1 1 0 k),(6,.sl 2 cnt 0 0),(7,.sc (.int .i64 ((0:Nat):Int)))]) cnt 218 2 (cnt+1) (by omega) (by omega) ?_ (Ea _ _ _) ?_
 ·exact Agd
 refine Yq ?_
 refine Al (σ:=Nat × Tq) (fun y cnt=>⟨Bn 0 123 [(1,.pt 0 0 0 0),(4,.sl 1 1 0 k),(6,.sl 2 y.2.v 0 y.2.n),(7,.sc (.int .i64 y.1))],tqH c y.2,cnt⟩)
  (fun y=>y.1≤c.ens.length∧y.2.hs=R∧y.2.n≤y.2.ws.length∧HJ c y.1 R (y.2.ws.take y.2.n)) (fun y=>c.ens.length - y.1) (0,⟨R,[],0,cnt⟩) ⟨Bu _,rfl,Ar _,hst⟩ (CH _) ?_ rfl ?_
 ·simp only [tqH]
  exact Jp
 clear hst hR hRl
 rintro ⟨j,⟨hs,ws,n,v⟩⟩ cn ⟨hj,hR,hnl,hI⟩ ih
 simp only at hj hR hnl hI
 subst hR
 have hbd:=hI.mea
 have hlen:=hI.len
 have htl:(ws.take n).length=n:=by rw [lx68]; omega
 rw [htl] at hbd
 by_cases hj':j < c.ens.length
 ·have h1:decide ((j:Int) < (c.ens.length:Int))=true:=by rw [AN]; omega
  have h2:decide (j < c.ens.length)=true:=Ae
  have w1:IntKind.i64.wrap ((j:Int)+1)=((j+1:Nat):Int):=AA
  have hne:=Awd hLd hI hj'
  obtain ⟨x,hx⟩:∃ x,c.ens.getD j default=x:=⟨_,rfl⟩
  rw [hx] at hne
  have ht:List.take n (ws.map UE)=(ws.take n).map UE:=by rw [List.map_take]
  have hsz:decide ((n+1) * 16≤140737488355328)=true:=Ae
  have ha:(ws.take n).map UE++[AV.ag [AV.sc (.int .i64 x.pc),AV.sc (.int .i64 0)]]=(ws.take n++[(x.pc,(0:Int))]).map UE:=R0
  have ih:=fun v c=>ih (j+1,⟨hs,ws.take n++[(x.pc,0)],n+1,v⟩) c ⟨by simp only; omega,rfl,by simp; omega,by simp only; rw [show n+1=n+[((x.pc:Int),(0:Int))].length from rfl,Tm hnl]; exact hne⟩ (by simp only; omega)
  simp only [tqH] at ih ⊢
  refine Aa ?_
  refine Bq ?_
  refine Jk (Hg h1 h2 hx w1 ht hsz ha @BU @Ab @Cu) ?_
  refine Ao ?_ ?_ (Ar _) (ih (cn+1) _)
  all_goals exact qc5
 obtain rfl:j=c.ens.length:=Ah
 clear ih hj hj'
 have h1:decide ((c.ens.length:Int) < (c.ens.length:Int))=false:=Bc
 refine Aa ?_
 simp only [tqH]
 refine Bq ?_
 refine Jk (a2 h1 @Ab) ?_
 refine Al (σ:=Tq) (fun y cnt=>⟨Bn 0 123 [(1,.pt 0 0 0 0),(4,.sl 1 1 0 k),(6,.sl 2 y.v 0 y.n)],tqH c y,cnt⟩)
  (fun y=>y.n≤y.ws.length∧HJ c c.ens.length y.hs (y.ws.take y.n)) (fun y=>3 * N3 y.hs+y.n) ⟨hs,ws,n,v⟩ ⟨hnl,hI⟩ ?_ ?_ rfl ?_
 ·exact Gn
 ·simp only [tqH]
  exact Jp
 clear hI hbd hnl hlen h1 htl
 rintro ⟨hs,ws,n,v⟩ cn ⟨hnl,hI⟩ ih
 simp only at hnl hI ih
 have hbd:=hI.mea
 have hlen:=hI.len
 have htl:(ws.take n).length=n:=by rw [lx68]; omega
 rw [htl] at hbd
 rw [hn] at hlen
 simp only [tqH] at ih ⊢
 refine Aa ?_
 by_cases Jl:n=0
 ·subst Jl
  have e:=Awe hLd (by simpa using hI)
  have h1:decide ((0:Int) < ((0:Nat):Int))=false:=by decide
  exact Ar6
 obtain ⟨m,rfl⟩:∃ m,n=m+1:=⟨n - 1,by omega⟩
 have htk:ws.take (m+1)=ws.take m++[ws.getD m default]:=by rw [lx115 (by omega),lx80,lx51 (by omega)]; rfl
 obtain ⟨⟨i,h⟩,hp⟩:∃ p,ws.getD m default=p:=⟨_,rfl⟩
 rw [hp] at htk
 rw [htk] at hI
 obtain ⟨hR,p0,p2⟩:=hI.wait (i,h) (List.mem_append_right _ (lx70.2 rfl))
 simp only at hR p0 p2
 obtain ⟨p,rfl⟩:∃ p:Nat,i=(p:Int):=⟨i.toNat,by omega⟩
 have c1:decide ((0:Int) < ((m+1:Nat):Int))=true:=Ae
 have w1:IntKind.i64.wrap (((m+1:Nat):Int) - 1)=(m:Int):=AA
 have c2:decide ((0:Int)≤(m:Int))=true:=Ae
 have c3:decide ((m:Int) < ((m+1:Nat):Int))=true:=Ae
 have c9:decide ((m:Int)≤((m+1:Nat):Int))=true:=Ae
 have c4:decide (m < ws.length)=true:=Ae
 by_cases d1:p < k
 rotate_left
 ·have e:=Acv hR (by omega)
  have b1:decide ((k:Int)≤(p:Int))=true:=Ae
  refine Bq ?_
  exact IU (IL c1 w1 c3 c4 c9 hp b1 e @Ab @Hm @Ax)
  all_goals done
 have b1:decide ((k:Int)≤(p:Int))=false:=Gg
 by_cases d2:h≤48
 rotate_left
 ·have e:=XL hR d2
  have b2:decide ((48:Int) < h)=true:=Ae
  refine Bq ?_
  exact IU (G0 c1 w1 c3 c4 c9 hp b1 b2 e @Ab @Hm @Ax)
  all_goals done
 have b2:decide ((48:Int) < h)=false:=Gg
 have c5:decide ((0:Int)≤(p:Int))=true:=Ae
 have c6:decide (p < c.ins.length)=true:=Ae
 have c7:decide ((p:Int) < (k:Int))=true:=Ae
 have c8:decide (p < hs.length)=true:=Ae
 have c10:decide ((p:Int) < (c.ins.length:Int))=true:=Ae
 obtain ⟨g,hg⟩:∃ g,hs.getD p default=g:=⟨_,rfl⟩
 have hg':Ei hs p=g:=by rw [Y3,←hg,Rk (by omega)]
 by_cases d3:0≤g
 ·have b3:decide ((0:Int)≤g)=true:=by rw [AN]; exact d3
  by_cases d4:g=h
  ·have b4:(g != h)=false:=by simp [d4]
   have ih:=fun c=>ih ⟨hs,ws,m,v⟩ c ⟨by simp only; omega,Aob hI (by omega) (by rw [hg',d4])⟩ (by simp only; omega)
   simp only at ih
   refine Bq ?_
   refine Jk (a16 c1 w1 c3 c4 c9 hp b1 b2 c7 c8 hg b3 b4 @Ab @Hm @Ax) ?_
   exact MB
  ·have b4:(g != h)=true:=by simpa using d4
   have e:=Acw hR (hI.mark p p0 (by omega) (by rw [hg']; exact d3)).1 (by rw [hg']; exact fun hh=>d4 hh.symm)
   refine Bq ?_
   exact IU (a17 c1 w1 c3 c4 c9 hp b1 b2 c7 c8 hg b3 b4 e @Ab @Hm @Ax)
   repeat' (first | exact Ad (by kernel_rfl) | refine ⟨Ad (by kernel_rfl),?_⟩ | refine And.intro ?_ ?_ | fail)
   all_goals done
 have b3:decide ((0:Int)≤g)=false:=by rw [BT]; exact d3
 obtain ⟨x,hx⟩:∃ x,c.ins.getD p default=x:=⟨_,rfl⟩
 have hxi:AE c p=x:=by rw [AE,Hp]; exact hx
 have hm:(hs.map (kA .i64)).set p (AV.sc (.int .i64 h))=(hs.set p h).map (kA .i64):=RZ
 have x1:=Ao5 x.op
 by_cases d4:(Br x.op).1≤h
 rotate_left
 ·have e:=Y2 hR (fun hh=>d4 (by rw [hxi] at hh; exact hh.1))
  have b4:decide (h < (Br x.op).1)=true:=Ae
  refine Bq ?_
  exact IU (a24 c1 w1 c3 c4 c9 hp b1 b2 c6 c7 c8 c10 hg b3 hx hm x1 b4 e @AM @Ab @Hm @Ax @AD)
  all_goals done
 have b4:decide (h < (Br x.op).1)=false:=Gg
 by_cases d5:x.op=31∧h≠0
 ·have e:=Y2 hR (fun hh=>d5.2 (by rw [hxi] at hh; exact hh.2 d5.1))
  have b5:(x.op == 31)=true:=by rw [lx85]; exact d5.1
  have b6:(h != 0)=true:=by simpa using d5.2
  refine Bq ?_
  exact IU (a26 c1 w1 c3 c4 c9 hp b1 b2 c6 c7 c8 c10 hg b3 hx hm x1 b4 b5 b6 e @AM @Ab @Hm @Ax @AD)
  all_goals done
 have ho:KC (AE c p) h:=by
  rw [hxi]
  exact ⟨d4,fun hh=>by
   by_cases hz:h=0
   ·exact hz
   ·exact absurd ⟨hh,hz⟩ d5⟩
 obtain ⟨hI2,hng⟩:=Aoc hLd hI (by omega) d2 (by rw [hg']; exact d3) ho
 rw [hxi] at hI2
 have hE:=Bij x p h ⟨⟨p0,by simp only; omega⟩,by simp only; omega,by simp only; omega⟩
 obtain ⟨S,hS⟩:∃ S,BZ x p h=S:=⟨_,rfl⟩
 rw [hS] at hI2 hE
 simp only [AM] at hE
 have hSl:S.length≤2:=by
  rw [←hS]; unfold BZ
  split
  ·simp
  ·split
   ·simp
   ·split
    ·simp
    ·split <;> simp
 have ih:=fun v c=>ih ⟨hs.set p h,ws.take m++S,m+S.length,v⟩ c ⟨by simp; omega,by simp only; rw [Tm (by omega)]; exact hI2⟩ (by simp only; rw [Hp] at hng; omega)
 simp only at ih
 have ht:List.take m (ws.map UE)=(ws.take m).map UE:=by rw [List.map_take]
 have hsz:decide ((m+S.length) * 16≤140737488355328)=true:=Ae
 have ha:(ws.take m).map UE++S.map UE=(ws.take m++S).map UE:=by rw [lx12]
 clear hI hI2 hR hS hng
 cases b5:(x.op == 31) with
 | true=>
  have b6:(h != 0)=false:=by
   have:x.op=31:=by simpa using b5
   have:h=0:=by
    by_cases hz:h=0
    ·exact hz
    ·exact absurd ⟨this,hz⟩ d5
   simp [this]
  refine Bq ?_
  refine Jk (Nx c1 w1 c3 c4 c9 hp b1 b2 c6 c7 c8 c10 hg b3 hx hm x1 b4 b5 b6 hE ht hsz ha @AM @Ab @Hm @Ax @AD @Tl @Mg) ?_
  refine Ao ?_ ?_ (Ar _) (ih (cn+1+1) _)
  all_goals exact qc5
 | false=>
  refine Bq ?_
  refine Jk (a30 c1 w1 c3 c4 c9 hp b1 b2 c6 c7 c8 c10 hg b3 hx hm x1 b4 b5 hE ht hsz ha @AM @Ab @Hm @Ax @AD @Tl @Mg) ?_
  refine Ao ?_ ?_ (Ar _) (ih (cn+1+1) _)
  all_goals exact qc5
def KE (c:Cd) (k:Nat):Bool:=LD (c.ens.getD k default) (c.ens.getD (k+1) default)
def Tn (c:Cd):Bool:=!(List.range (c.ens.length - 1)).any (fun k=>!KE c k)
theorem Akc {c:Cd} {k:Nat} (hk:k+1 < c.ens.length) (h:KE c k=false):Tn c=false:=by
 have:(List.range (c.ens.length - 1)).any (fun k=>!KE c k)=true:=List.any_eq_true.2 ⟨k,Jn.2 (by omega),by simp [h]⟩
 rw [Tn,this]; rfl
theorem Ts {c:Cd} (h:∀ k,k+1 < c.ens.length→KE c k=true):Tn c=true:=by
 have:(List.range (c.ens.length - 1)).any (fun k=>!KE c k)=false:=by
  rw [lx97]
  intro k hk
  rw [Jn] at hk
  simp [h k (by omega)]
 rw [Tn,this]; rfl
noncomputable def Bo (c:Cd):Int:=if N2 c=false then 9 else if IE c=false then 51 else if Ga c=false then 54 else if Tn c=false then 66 else if Jd c=false then 53 else 0
theorem XM (c:Cd) (hq:Fit c):C6 Tryz.prog 98 [BP c] (.tu [.jk,kA .i64 (Bo c)]):=by
 have hens:=hq.ens
 have x1:=Big c hq
 have x2:=Bdf c hq
 have x3:=Bdg c hq
 simp only [Ab] at x1 x2 x3
 have x4:=fun a b=>Bct a b
 simp only [BU] at x4
 by_cases ht:Ga c=true
 rotate_left
 ·rw [Hq] at ht
  refine BW (Aj (lit:=false) (pm:=fun _=>none) (.cons Atk (.cons Atl (.cons Atm .nil))) .nil .nil .nil) rfl Tryz.func98 rfl (by decide) (by kernel_rfl) (by simp [kA,AV.noref,norefs]) ?_
  simp only [Tryz.f98,Af,lx53,lx63,Nat.reduceAdd,Nat.reduceSub,List.replicate]
  refine Aa ?_
  rw [ht] at x3
  cases h1:N2 c with
  | false=>
   exact Aze
  | true=>
  rw [h1] at x1
  cases h2:IE c with
  | false=>
   exact Az8
  | true=>
  rw [h2] at x2
  simp (maxSteps:=10000000) +contextual -implicitDefEqProofs only [AY,AW,St.put,Ap,Am,DO,pl,↓reduceIte,Nat.reduceAdd,Nat.reduceEqDiff,Dc,Int.reduceAdd,CK,AB,Ab,x1,x2,x3,Bo,h1,h2,ht]
  all_goals done
 obtain ⟨F146,k146,e146⟩:=UF (UD c hq (Acx ht))
 simp only [Ab,AZ] at e146
 refine BW (Aj (lit:=false) (pm:=fun _=>none) (.cons Atk (.cons Atl (.cons Atm (.cons Bcv .nil)))) (.cons k146 .nil) .nil .nil) rfl Tryz.func98 rfl (by decide) (by kernel_rfl) (by simp [kA,AV.noref,norefs]) ?_
 simp only [Tryz.f98,Af,lx53,lx63,Nat.reduceAdd,Nat.reduceSub,List.replicate]
 refine Aa ?_
 rw [ht] at x3
 cases h1:N2 c with
 | false=>
  exact Aze
 | true=>
 rw [h1] at x1
 cases h2:IE c with
 | false=>
  exact Az8
 | true=>
 rw [h2] at x2
 refine Jk (a4 x1 x2 x3 @Ab) ?_
 refine Al (σ:=Nat) (fun k cnt=>⟨Bn 0 47 [(1,.pt 0 0 0 0),(4,.sc (.int .i64 ((k+1:Nat):Int)))],[⟨true,0,36,7,[BP c],false⟩],cnt⟩)
  (fun k=>(k+1≤c.ens.length∨k=0)∧∀ j,j < k→KE c j=true) (fun k=>c.ens.length - k) 0 ⟨by omega,by omega⟩ ?_ ?_ rfl ?_
 ·exact Gn
 ·exact Jp
 rintro k cnt ⟨hk,hn⟩ ih
 by_cases hk':k+1 < c.ens.length
 rotate_left
 ·have h3:decide (((k+1:Nat):Int) < (c.ens.length:Int))=false:=by rw [BT]; omega
  have e:=Ts (c:=c) (fun j hj=>hn j (by omega))
  refine Aa ?_
  cases h4:Jd c with
  | false=>
   exact Ayh
  | true=>
   exact Ayh
 have h3:decide (((k+1:Nat):Int) < (c.ens.length:Int))=true:=Ae
 have h4:decide (k+1 < c.ens.length)=true:=Ae
 have h5:decide (k < c.ens.length)=true:=Ae
 have h6:decide ((k:Int) < (c.ens.length:Int))=true:=Ae
 have w1:IntKind.i64.wrap (((k+1:Nat):Int)+1)=((k+1+1:Nat):Int):=AA
 have w2:IntKind.i64.wrap (((k+1:Nat):Int) - 1)=(k:Int):=AA
 have x4:=x4 (c.ens.getD k default) (c.ens.getD (k+1) default)
 have hl:LD (c.ens.getD k default) (c.ens.getD (k+1) default)=KE c k:=rfl
 rw [hl] at x4
 obtain ⟨a,ha⟩:∃ a,c.ens.getD k default=a:=⟨_,rfl⟩
 obtain ⟨b,hb⟩:∃ b,c.ens.getD (k+1) default=b:=⟨_,rfl⟩
 rw [ha,hb] at x4
 clear hl
 refine Aa ?_
 cases h7:KE c k with
 | false=>
  exact Ayf
 | true=>
  exact As7
noncomputable def f53:=Ew Fit (fun c=>[BP c]) (fun c=>kA .i64 (Bo c))
theorem e53 (c:Cd) (h:Fit c):f53 [BP c]=some (.sc (.int .i64 (Bo c))):=
 (AK (q:=Fit) (enc:=fun c=>[BP c]) (out:=fun c=>kA .i64 (Bo c)) c h (by
  intro b h
  simp only [lx96,Ay] at h
  rw [CT h]) :)
theorem Bdl:DC Tryz.prog 53 f53:=AF <| by
 rintro c hq
 obtain ⟨F98,k98,e98⟩:=UF (XM c hq)
 simp only [Ab,AB] at e98
 refine Ac (Aj (lit:=false) (pm:=fun _=>none) .nil (.cons k98 .nil) .nil .nil) rfl Tryz.func53 rfl (by decide) (by kernel_rfl) (by kernel_rfl) ?_
 simp only [Tryz.f53,Af,lx53,lx63,Nat.reduceAdd,Nat.reduceSub,List.replicate]
 refine Aa ?_
 exact IU (a2 e98 @Ab)
 all_goals done
theorem Aoe (c:Cd):(decide ((4000:Int) < c.ins.length) || decide ((200:Int) < c.strs.length) || decide ((512:Int) < c.ens.length) || decide ((16:Int) < c.pri.length) || decide ((128:Int) < c.vars.length) || !EU c.tim 0 128 || !EU c.evs 0 128)=!N2 c:=by
 have h:∀ a b:Int,decide (a < b)=!decide (b≤a):=fun a b=>by
  by_cases c:a < b
  ·rw [HU c,E8 (by omega)]; rfl
  ·rw [E8 c,HU (by omega)]; rfl
 rw [N2]
 simp only [h,Bool.not_and]
theorem Aof:DC Tryz.prog 55 f53:=AF <| by
 rintro c hq
 have hens:=hq.ens
 have x2:=Bdf c hq
 have x3:=Bdg c hq
 simp only [Ab] at x2 x3
 have x4:=fun a b=>Bct a b
 simp only [BU] at x4
 have hlm:=Aoe c
 by_cases ht:Ga c=true
 rotate_left
 ·rw [Hq] at ht
  refine Ac (Aq ((.cons Aez (.cons Ato (.cons Atp .nil)))) (.nil)) rfl Tryz.func55 rfl (by decide) (by kernel_rfl) (by kernel_rfl) ?_
  simp only [Tryz.f55,Af,lx53,lx63,Nat.reduceAdd,Nat.reduceSub,List.replicate]
  refine Aa ?_
  rw [ht] at x3
  cases h1:N2 c with
  | false=>
   exact Az7
  | true=>
  rw [h1] at hlm
  cases h2:IE c with
  | false=>
   exact Az3
  | true=>
  rw [h2] at x2
  simp (maxSteps:=10000000) +contextual -implicitDefEqProofs only [AY,AW,Au,St.put,Ap,Am,DO,pl,↓reduceIte,reduceCtorEq,Nat.reduceAdd,Nat.reduceEqDiff,Dc,Int.reduceAdd,CK,AB,Ab,OV,hlm,x2,x3,Bo,h1,h2,ht]
  all_goals done
 obtain ⟨F103,k103,e103⟩:=UF (O9 c hq (Acx ht))
 simp only [Ab,AZ] at e103
 refine Ac (Aj (lit:=false) (pm:=fun _=>none) (.cons Aez (.cons Ato (.cons Atp (.cons Bcu .nil)))) (.cons k103 .nil) .nil .nil) rfl Tryz.func55 rfl (by decide) (by kernel_rfl) (by kernel_rfl) ?_
 simp only [Tryz.f55,Af,lx53,lx63,Nat.reduceAdd,Nat.reduceSub,List.replicate]
 refine Aa ?_
 rw [ht] at x3
 cases h1:N2 c with
 | false=>
  exact Az7
 | true=>
 rw [h1] at hlm
 cases h2:IE c with
 | false=>
  exact Az3
 | true=>
 rw [h2] at x2
 simp (maxSteps:=10000000) +contextual -implicitDefEqProofs only [AY,AW,Au,St.put,Ap,Am,DO,pl,↓reduceIte,reduceCtorEq,Nat.reduceAdd,Nat.reduceEqDiff,Dc,Int.reduceAdd,CK,AB,Ab,OV,hlm,x2,x3]
 refine Al (σ:=Nat) (fun k cnt=>⟨Bn 0 79 [(1,.pt 0 0 0 0),(3,.sc (.int .i64 ((k+1:Nat):Int)))],[⟨true,0,36,7,[BP c],false⟩],cnt⟩)
  (fun k=>(k+1≤c.ens.length∨k=0)∧∀ j,j < k→KE c j=true) (fun k=>c.ens.length - k) 0 ⟨by omega,by omega⟩ ?_ ?_ rfl ?_
 ·exact Gn
 ·exact Jp
 rintro k cnt ⟨hk,hn⟩ ih
 by_cases hk':k+1 < c.ens.length
 rotate_left
 ·have h3:decide (((k+1:Nat):Int) < (c.ens.length:Int))=false:=by rw [BT]; omega
  have e:=Ts (c:=c) (fun j hj=>hn j (by omega))
  refine Aa ?_
  cases h4:Jd c with
  | false=>
   exact Ayl
  | true=>
   exact Ayl
 have h3:decide (((k+1:Nat):Int) < (c.ens.length:Int))=true:=Ae
 have h4:decide (k+1 < c.ens.length)=true:=Ae
 have h5:decide (k < c.ens.length)=true:=Ae
 have h6:decide ((k:Int) < (c.ens.length:Int))=true:=Ae
 have w1:IntKind.i64.wrap (((k+1:Nat):Int)+1)=((k+1+1:Nat):Int):=AA
 have w2:IntKind.i64.wrap (((k+1:Nat):Int) - 1)=(k:Int):=AA
 have x4:=x4 (c.ens.getD k default) (c.ens.getD (k+1) default)
 have hle:LD (c.ens.getD k default) (c.ens.getD (k+1) default)=KE c k:=rfl
 rw [hle] at x4
 obtain ⟨a,ha⟩:∃ a,c.ens.getD k default=a:=⟨_,rfl⟩
 obtain ⟨b,hb⟩:∃ b,c.ens.getD (k+1) default=b:=⟨_,rfl⟩
 rw [ha,hb] at x4
 clear hle
 refine Aa ?_
 cases h7:KE c k with
 | false=>
  exact Ayf
 | true=>
  exact As7
structure Lm where
 lv:Int
 on:Int
 off:Int
 si:Int
 deriving DecidableEq
instance:Inhabited Lm:=⟨⟨0,0,0,0⟩⟩
def lmA (x:Lm):AV:=.ag [kA .i64 x.lv,kA .i64 x.on,kA .i64 x.off,kA .i64 x.si]
theorem Ic (x:Lm):lmA x=.ag [.sc (.int .i64 x.lv),.sc (.int .i64 x.on),.sc (.int .i64 x.off),.sc (.int .i64 x.si)]:=rfl
theorem Aog {x y:Lm} (h:lmA x=lmA y):x=y:=by
 cases x; cases y; simp_all [lmA,kA]
structure Lo where
 mo:Int
 la:Int
 se:Lm
 deriving DecidableEq
instance:Inhabited Lo:=⟨⟨0,0,default⟩⟩
def Bp (x:Lo):AV:=.ag [kA .i64 x.mo,kA .i64 x.la,kA .i64 x.se.lv,kA .i64 x.se.on,kA .i64 x.se.off,kA .i64 x.se.si]
theorem Bg (x:Lo):Bp x=.ag [.sc (.int .i64 x.mo),.sc (.int .i64 x.la),.sc (.int .i64 x.se.lv),.sc (.int .i64 x.se.on),.sc (.int .i64 x.se.off),.sc (.int .i64 x.se.si)]:=rfl
theorem K5 {x y:Lo} (h:Bp x=Bp y):x=y:=by
 obtain ⟨a,b,⟨c,d,e,f⟩⟩:=x; obtain ⟨a',b',⟨c',d',e',f'⟩⟩:=y; simp_all [Bp,kA]
theorem HB {l m:List Lo}:l.map Bp=m.map Bp↔l=m:=⟨DY (fun _ _=>K5),fun h=>by rw [h]⟩
theorem B4 (l:List Lo):C9 6 (l.map Bp)=true:=DH (f:=Bp) (fun _=>rfl) l
theorem JL (l:List Lo):norefs (l.map Bp)=true:=Da (f:=Bp) (fun _=>by simp [Bp,kA,AV.noref,norefs]) l
structure Rs where
 zv:Bool
 vars:List Int
 zl:Bool
 left:List Int
 act:Int
 zm:Bool
 lamps:List Lo
 fau:Int
instance:Inhabited Rs:=⟨⟨true,[],true,[],0,true,[],0⟩⟩
def Gb (s:Rs):AV:=.ag [.vw s.zv (s.vars.map (kA .i64)),.vw s.zl (s.left.map (kA .i64)),.sc (.int .u32 s.act),.vw s.zm (s.lamps.map Bp),kA .i64 s.fau]
theorem Az (s:Rs):Gb s=.ag [.vw s.zv (s.vars.map (kA .i64)),.vw s.zl (s.left.map (kA .i64)),.sc (.int .u32 s.act),.vw s.zm (s.lamps.map Bp),.sc (.int .i64 s.fau)]:=rfl
theorem JM {x y:Rs} (h:Gb x=Gb y):x=y:=by
 cases x; cases y; simp_all [Gb,kA,Jb,HB]
theorem Af3 (s:Rs):(Gb s).noref=true:=by simp [Gb,kA,AV.noref,norefs]
structure Vn where
 zv:Bool
 vars:List Int
 zl:Bool
 left:List Int
 clo:Int
 act:Int
 pl':Int
 ba:Int
instance:Inhabited Vn:=⟨⟨true,[],true,[],0,0,0,0⟩⟩
def J0 (v:Vn):AV:=.ag [.vw v.zv (v.vars.map (kA .i64)),.vw v.zl (v.left.map (kA .i64)),.sc (.int .u64 v.clo),.sc (.int .u32 v.act),kA .i64 v.pl',kA .i64 v.ba]
theorem AS (v:Vn):J0 v=.ag [.vw v.zv (v.vars.map (kA .i64)),.vw v.zl (v.left.map (kA .i64)),.sc (.int .u64 v.clo),.sc (.int .u32 v.act),.sc (.int .i64 v.pl'),.sc (.int .i64 v.ba)]:=rfl
theorem Ad0 {x y:Vn} (h:J0 x=J0 y):x=y:=by
 cases x; cases y; simp_all [J0,kA,Jb]
theorem Tt (s:Vn):(J0 s).noref=true:=by simp [J0,kA,AV.noref,norefs]
structure Cx where
 ti:Int
 clo:Int
 pl':Int
 ba:Int
instance:Inhabited Cx:=⟨⟨0,0,0,0⟩⟩
def KF (v:Cx):AV:=.ag [kA .i64 v.ti,.sc (.int .u64 v.clo),kA .i64 v.pl',kA .i64 v.ba]
theorem Cl (v:Cx):KF v=.ag [.sc (.int .i64 v.ti),.sc (.int .u64 v.clo),.sc (.int .i64 v.pl'),.sc (.int .i64 v.ba)]:=rfl
theorem UG {x y:Cx} (h:KF x=KF y):x=y:=by
 cases x; cases y; simp_all [KF,kA]
structure Ev where
 tr:Int
 ix:Int
 mo:Int
 deriving DecidableEq
instance:Inhabited Ev:=⟨⟨0,0,0⟩⟩
def Cf (x:Ev):AV:=.ag [kA .i64 x.tr,kA .i64 x.ix,kA .i64 x.mo]
theorem Be (x:Ev):Cf x=.ag [.sc (.int .i64 x.tr),.sc (.int .i64 x.ix),.sc (.int .i64 x.mo)]:=rfl
theorem Ni {x y:Ev} (h:Cf x=Cf y):x=y:=by
 cases x; cases y; simp_all [Cf,kA]
theorem K6 {l m:List Ev}:l.map Cf=m.map Cf↔l=m:=⟨DY (fun _ _=>Ni),fun h=>by rw [h]⟩
theorem C7 (l:List Ev):C9 3 (l.map Cf)=true:=DH (f:=Cf) (fun _=>rfl) l
theorem Er (l:List Ev):norefs (l.map Cf)=true:=Da (f:=Cf) (fun _=>by simp [Cf,kA,AV.noref,norefs]) l
noncomputable def f155:=Ew (fun _:Int=>True) (fun x=>[kA .i64 x]) (fun _=>bA false)
theorem Awg (x:Int):f155 [.sc (.int .i64 x)]=some (.sc (.bool false)):=
 (AK (q:=fun _:Int=>True) (enc:=fun x=>[kA .i64 x]) (out:=fun _=>bA false) x trivial (by intro y h; simpa [kA] using h) :)
theorem Bdm:DC Tryz.prog 155 f155:=AF <| by
 rintro x -
 refine Ac (Aq (.nil) (.nil)) rfl Tryz.func155 rfl (by decide) (by kernel_rfl) (by kernel_rfl) ?_
 simp only [Tryz.f155,Af,lx53,lx63,Nat.reduceAdd,Nat.reduceSub,List.replicate]
 refine Aa ?_
 simp (maxSteps:=10000000) +contextual -implicitDefEqProofs only [AY,AW,St.put,AB,AZ]
def G9 (x y:Int):Int:=if x < y then -1 else if y < x then 1 else 0
theorem Ad1 (x y:Int):G9 x y < 0↔x < y:=by
 unfold G9; split
 ·omega
 ·split <;> omega
noncomputable def f112:=Ew (fun _:Int × Int=>True) (fun p=>[kA .i64 p.1,kA .i64 p.2]) (fun p=>kA .i64 (G9 p.1 p.2))
theorem Bdn (x y:Int):f112 [.sc (.int .i64 x),.sc (.int .i64 y)]=some (.sc (.int .i64 (G9 x y))):=
 (AK (q:=fun _:Int × Int=>True) (enc:=fun p=>[kA .i64 p.1,kA .i64 p.2]) (out:=fun p=>kA .i64 (G9 p.1 p.2)) (x,y) trivial (by rintro ⟨a,b⟩ h; simp_all [kA]) :)
theorem Ats:DC Tryz.prog 112 f112:=AF <| by
 rintro ⟨x,y⟩ -
 refine Ac (Aq ((.cons Bdm .nil)) (.nil)) rfl Tryz.func112 rfl (by decide) (by kernel_rfl) (by kernel_rfl) ?_
 simp only [Tryz.f112,Af,lx53,lx63,Nat.reduceAdd,Nat.reduceSub,List.replicate]
 refine Aa ?_
 rcases Int.lt_trichotomy x y with h | h | h
 ·have hc:G9 x y=-1:=by simp [G9,h]
  exact JW (a3 h hc @Awg)
 ·have hc:G9 x y=0:=by simp [G9,h]
  have h1:¬ x < y:=Ah
  have h2:¬ y < x:=Ah
  exact JW (a4 h1 h2 hc @Awg)
 ·have h1:¬ x < y:=by omega
  have hc:G9 x y=1:=by simp [G9,h,h1]
  exact JW (a4 h h1 hc @Awg)
def orN (l:List Int):Int:=(l.find? (fun x=>x != 0)).getD 0
theorem Awh {l:List Int} {k:Nat} (hk:k < l.length) (h:(l.getD k default != 0)=true) (hn:∀ j,j < k→(l.getD j default != 0)=false):orN l=l.getD k default:=by
 have:l.find? (fun x=>x != 0)=some (l.getD k default):=by
  rw [List.find?_eq_some_iff_getElem]
  refine ⟨h,k,hk,by rw [lx80,lx51 hk]; rfl,fun j hj=>?_⟩
  exact As1
 rw [orN,this]; rfl
theorem Awi {l:List Int} (hn:∀ j,j < l.length→(l.getD j default != 0)=false):orN l=0:=by
 have:l.find? (fun x=>x != 0)=none:=by
  rw [List.find?_eq_none]
  intro x hx
  obtain ⟨j,hj,rfl⟩:=lx69 hx
  have:=hn j hj
  rw [lx80,lx51 hj] at this
  simpa using this
 rw [orN,this]; rfl
noncomputable def f118:=Ew (fun l:Bool × List Int=>l.2.length≤1000000) (fun l=>[.vw l.1 (l.2.map (kA .i64))]) (fun l=>kA .i64 (orN l.2))
theorem Bil (z:Bool) (a b:Int):f118 [.vw z [.sc (.int .i64 a),.sc (.int .i64 b)]]=some (.sc (.int .i64 (orN [a,b]))):=
 (AK (q:=fun l:Bool × List Int=>l.2.length≤1000000) (enc:=fun l=>[.vw l.1 (l.2.map (kA .i64))]) (out:=fun l=>kA .i64 (orN l.2)) (z,[a,b]) (by simp) (by
  rintro ⟨x,y⟩ h
  simp only [lx96,AV.vw.injEq,Jb,Ay] at h
  rw [h.1,h.2]) :)
theorem Bdo:DC Tryz.prog 118 f118:=AF <| by
 rintro ⟨z,l⟩ hq
 simp only at hq
 refine Ac (Aq (.nil) (.nil)) rfl Tryz.func118 rfl (by decide) (by kernel_rfl) (by kernel_rfl) ?_
 simp only [Tryz.f118,Af,lx53,lx63,Nat.reduceAdd,Nat.reduceSub,List.replicate]
 refine qd4 ?_
 refine Al (σ:=Nat) (fun k cnt=>⟨Bn 0 18 [(3,.sc (.int .i64 0)),(6,.vw z (l.map (kA .i64))),(7,.sc (.int .i64 l.length)),(8,.sc (.int .i64 k))],[],cnt⟩)
  (fun k=>k≤l.length∧∀ j,j < k→(l.getD j default != 0)=false) (fun k=>l.length - k) 0 ⟨by omega,by omega⟩ ?_ trivial rfl ?_
 ·exact Gn
 rintro k cnt ⟨hk,hn⟩ ih
 refine Aa ?_
 by_cases hk':k < l.length
 ·have h1:decide ((k:Int) < (l.length:Int))=true:=by rw [AN]; omega
  have h2:decide (k < l.length)=true:=Ae
  have w1:IntKind.i64.wrap ((k:Int)+1)=((k+1:Nat):Int):=AA
  cases h3:l.getD k default != 0 with
  | true=>
   have e:=Awh hk' h3 hn
   obtain ⟨x,hx⟩:∃ x,l.getD k default=x:=⟨_,rfl⟩
   rw [hx] at h3 e
   refine Bq ?_
   exact JW (a5 h1 h2 hx h3 e)
   all_goals done
  | false=>
   have ih:=fun c=>ih (k+1) c ⟨by omega,Bl hn h3⟩ (by omega)
   obtain ⟨x,hx⟩:∃ x,l.getD k default=x:=⟨_,rfl⟩
   rw [hx] at h3
   refine Bq ?_
   refine O2 (a5 h1 h2 hx h3 w1) ?_
   refine Ao ?_ ?_ (Ar _) (ih _)
   all_goals exact ZG
 ·have hkl:k=l.length:=by omega
  subst hkl
  have h1:decide ((l.length:Int) < (l.length:Int))=false:=Bc
  have e:=Awi hn
  refine Bq ?_
  simp (maxSteps:=10000000) +contextual -implicitDefEqProofs only [AY,AW,St.put,↓reduceIte,h1,e]
  all_goals done
def IS (a b:Lo):Int:=orN [G9 a.mo b.mo,G9 a.la b.la]
theorem Ad2 (a b:Int):orN [a,b]=if a=0 then b else a:=by
 by_cases h:a=0
 ·subst h
  by_cases h2:b=0
  ·subst h2; rfl
  ·simp [orN,h2]
 ·simp [orN,h]
theorem Ad3 (a b:Lo):IS a b < 0↔a.mo < b.mo∨a.mo=b.mo∧a.la < b.la:=by
 rw [IS,Ad2]
 have h1:=Ad1 a.mo b.mo
 have h2:=Ad1 a.la b.la
 have h3:G9 a.mo b.mo=0↔a.mo=b.mo:=by
  unfold G9; split
  ·omega
  ·split <;> omega
 split
 ·rename_i h; rw [h2]; have:=h3.1 h; omega
 ·rename_i h; rw [h1]; have:a.mo≠b.mo:=fun hh=>h (h3.2 hh); omega
noncomputable def f80:=Ew (fun _:Lo × Lo=>True) (fun p=>[Bp p.1,Bp p.2]) (fun p=>kA .i64 (IS p.1 p.2))
theorem e80 (a b:Lo):f80 [Bp a,Bp b]=some (.sc (.int .i64 (IS a b))):=
 (AK (q:=fun _:Lo × Lo=>True) (enc:=fun p=>[Bp p.1,Bp p.2]) (out:=fun p=>kA .i64 (IS p.1 p.2)) (a,b) trivial (by
  rintro ⟨x,y⟩ h
  simp only [lx96,Ay] at h
  rw [K5 h.1,K5 h.2]) :)
theorem Bdp:DC Tryz.prog 80 f80:=AF <| by
 rintro ⟨a,b⟩ -
 refine Ac (Aq ((.cons Ats (.cons Bdo .nil))) (.nil)) rfl Tryz.func80 rfl (by decide) (by kernel_rfl) (by kernel_rfl) ?_
 simp only [Tryz.f80,Af,lx53,lx63,Nat.reduceAdd,Nat.reduceSub,List.replicate]
 refine Aa ?_
 simp (maxSteps:=10000000) +contextual -implicitDefEqProofs only [AY,AW,St.put,Ap,Am,DO,pl,↓reduceIte,reduceCtorEq,Nat.reduceAdd,Nat.reduceLeDiff,Nat.reduceEqDiff,Nat.reduceMul,Int.reduceLT,Nat.reduceLT,Dc,Int.reduceAdd,Int.reduceMul,CK,AB,Bg,norefs,AV.noref,Bdn,Bil,IS]
 repeat' (first | exact Ad (by kernel_rfl) | refine ⟨Ad (by kernel_rfl),?_⟩ | refine And.intro ?_ ?_ | fail)
 all_goals done
def XN (t:Int):Bool:=decide (0≤t) && decide (t≤1099511627776)
noncomputable def f117:=Ew (fun _:Int=>True) (fun x=>[kA .i64 x]) (fun x=>bA (XN x))
theorem Bim (x:Int):f117 [.sc (.int .i64 x)]=some (.sc (.bool (XN x))):=
 (AK (q:=fun _:Int=>True) (enc:=fun x=>[kA .i64 x]) (out:=fun x=>bA (XN x)) x trivial (by intro y h; simp only [lx96,Ay] at h; rw [Bx h]) :)
theorem Bdq:DC Tryz.prog 117 f117:=AF <| by
 rintro x -
 refine Ac (Aq (.nil) (.nil)) rfl Tryz.func117 rfl (by decide) (by kernel_rfl) (by kernel_rfl) ?_
 simp only [Tryz.f117,Af,lx53,lx63,Nat.reduceAdd,Nat.reduceSub,List.replicate]
 refine Aa ?_
 simp (maxSteps:=10000000) +contextual -implicitDefEqProofs only [AY,AW,Au,St.put,↓reduceIte,AB,AZ,XN]
def LG (x:Lm):Bool:=decide (0≤x.lv∧x.lv≤8∧(0≤x.si∧x.si≤1099511627776)∧0≤x.off∧x.off≤1000∧((x.off=0∧x.on=0)∨(0 < x.off∧1≤x.on∧x.on≤1000)))
noncomputable def f79:=Ew (fun _:Lm=>True) (fun x=>[lmA x]) (fun x=>bA (LG x))
theorem e79 (x:Lm):f79 [lmA x]=some (.sc (.bool (LG x))):=
 (AK (q:=fun _:Lm=>True) (enc:=fun x=>[lmA x]) (out:=fun x=>bA (LG x)) x trivial (by intro y h; simp only [lx96,Ay] at h; rw [Aog h]) :)
theorem Bin:DC Tryz.prog 79 f79:=AF <| by
 rintro ⟨l,n,f,c⟩ -
 refine Ac (Aq ((.cons Bdq .nil)) (.nil)) rfl Tryz.func79 rfl (by decide) (by kernel_rfl) (by kernel_rfl) ?_
 simp only [Tryz.f79,Af,lx53,lx63,Nat.reduceAdd,Nat.reduceSub,List.replicate]
 refine Aa ?_
 refine O2 (a2 @Ic @Bim) ?_
 simp only [LG,XN]
 exact Ayp
theorem Bio:DC Tryz.prog 82 f79:=AF <| by
 rintro ⟨l,n,f,c⟩ -
 refine Ac (Aq (.nil) (.nil)) rfl Tryz.func82 rfl (by decide) (by kernel_rfl) (by kernel_rfl) ?_
 simp only [Tryz.f82,Af,lx53,lx63,Nat.reduceAdd,Nat.reduceSub,List.replicate]
 refine Aa ?_
 refine O2 @Ic ?_
 simp only [LG]
 exact Ayp
def BQ (a m:Int):Bool:=EX .and .u32 (I2 .u32 a m) 1 == 1
def atQ (p:Rs × Int):Prop:=0≤p.2∧p.2≤1000000
noncomputable def f58:=Ew atQ (fun p=>[Gb p.1,kA .i64 p.2]) (fun p=>bA (BQ p.1.act p.2))
theorem e58 (s:Rs) (m:Int) (h:0≤m∧m≤1000000):f58 [Gb s,.sc (.int .i64 m)]=some (.sc (.bool (BQ s.act m))):=
 (AK (q:=atQ) (enc:=fun p=>[Gb p.1,kA .i64 p.2]) (out:=fun p=>bA (BQ p.1.act p.2)) (s,m) h (by
  rintro ⟨x,y⟩ h
  simp only [lx96,Ay] at h
  rw [JM h.1,Bx h.2]) :)
theorem Af4:DC Tryz.prog 58 f58:=AF <| by
 rintro ⟨s,m⟩ ⟨h0,h1⟩
 simp only at h0 h1
 refine Ac (Aq (.nil) (.nil)) rfl Tryz.func58 rfl (by decide) (by kernel_rfl) (by kernel_rfl) ?_
 simp only [Tryz.f58,Af,lx53,lx63,Nat.reduceAdd,Nat.reduceSub,List.replicate]
 refine Aa ?_
 simp (maxSteps:=10000000) +contextual -implicitDefEqProofs only [AY,AW,St.put,↓reduceIte,reduceCtorEq,Nat.reduceAdd,Dc,Int.reduceAdd,CK,AB,AZ,Az,h0,BQ]
 all_goals done
theorem Aoi:DC Tryz.prog 61 f58:=AF <| by
 rintro ⟨s,m⟩ ⟨h0,h1⟩
 simp only at h0 h1
 have w:IntKind.u64.wrap m=m:=Eg (by omega) (by omega)
 refine Ac (Aq (.nil) (.nil)) rfl Tryz.func61 rfl (by decide) (by kernel_rfl) (by kernel_rfl) ?_
 simp only [Tryz.f61,Af,lx53,lx63,Nat.reduceAdd,Nat.reduceSub,List.replicate]
 refine Aa ?_
 simp (maxSteps:=10000000) +contextual -implicitDefEqProofs only [AY,AW,St.put,↓reduceIte,reduceCtorEq,Nat.reduceAdd,Dc,Int.reduceAdd,CK,AB,AZ,Az,h0,BQ,w]
 all_goals done
def C5 (s:Rs) (x:Cx):Vn:=⟨s.zv,s.vars,s.zl,s.left,x.clo,s.act,x.pl',x.ba⟩
noncomputable def f78:=Ew (fun _:Rs × Cx=>True) (fun p=>[Gb p.1,KF p.2]) (fun p=>J0 (C5 p.1 p.2))
theorem e78 (s:Rs) (x:Cx):f78 [Gb s,KF x]=some (J0 (C5 s x)):=
 (AK (q:=fun _:Rs × Cx=>True) (enc:=fun p=>[Gb p.1,KF p.2]) (out:=fun p=>J0 (C5 p.1 p.2)) (s,x) trivial (by
  rintro ⟨a,b⟩ h
  simp only [lx96,Ay] at h
  rw [JM h.1,UG h.2]) :)
theorem Bip:VOk Tryz.prog 78 f78:=LU <| by
 rintro ⟨s,x⟩ -
 refine BW (Aj (lit:=false) (pm:=fun _=>none) .nil .nil .nil .nil) rfl Tryz.func78 rfl (by decide) (by kernel_rfl) (Tt _) ?_
 simp only [Tryz.f78,Af,lx53,lx63,Nat.reduceAdd,Nat.reduceSub,List.replicate]
 refine Aa ?_
 simp (maxSteps:=10000000) +contextual -implicitDefEqProofs only [AY,AW,St.put,Ap,Am,↓reduceIte,reduceCtorEq,Nat.reduceAdd,Nat.reduceLeDiff,Int.reduceLT,Nat.reduceLT,Dc,Int.reduceAdd,CK,Az,AS,Cl,C5]
 all_goals done
end Go.Proofs.YtdjpkhjaibdogaaGreat
