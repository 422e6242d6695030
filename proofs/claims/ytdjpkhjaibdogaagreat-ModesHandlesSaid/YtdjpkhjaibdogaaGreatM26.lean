/-
  Lemmas towards ModesHandles (joined texts: BM, BN, CA).
  Conditions: none.
-/
import Derived.Test.YtdjpkhjaibdogaaGreatM01
import Derived.Test.YtdjpkhjaibdogaaGreatM02
import Derived.Test.YtdjpkhjaibdogaaGreatM25
import Derived.Test.YtdjpkhjaibdogaaGreatM18
set_option linter.unusedSimpArgs false
set_option linter.unusedVariables false
set_option maxRecDepth 100000
set_option maxHeartbeats 8000000
namespace Go.Proofs.YtdjpkhjaibdogaaGreat
open Go Go.SX
attribute [local congr] ite_congr
theorem TY {P:Program} {f:Nat} {args:List AV} {r:AV} (h:C1 P f args r):∃ F,VOk P f F∧F args=some r:=by
 refine ⟨fun a=>open Classical in if a=args then some r else none,?_,by simp⟩
 intro a v hv
 simp only at hv
 split at hv
 ·rename_i e; subst e; cases hv; exact h
 ·cases hv
theorem Amg {P:Program} {f:Nat} {args:List AV} {r:AV} (h:Hz P f args r):∃ F,FOk P f F∧F args=some r:=by
 refine ⟨fun a=>open Classical in if a=args then some r else none,?_,by simp⟩
 intro a v hv
 simp only at hv
 split at hv
 ·rename_i e; subst e; cases hv; exact h
 ·cases hv
structure Tq where
 hs:List Int
 ws:List (Int × Int)
 n:Nat
 v:Nat
def tqH (c:Cd) (r:Tq):List Blk:=[⟨true,0,36,7,[Bv c],false⟩,⟨true,1,3,1,r.hs.map (kA .i64),false⟩,⟨true,r.v,218,2,r.ws.map TX,false⟩]
theorem SI {α:Type} {ws:List α} {n:Nat} (h:n≤ws.length) (l:List α):(ws.take n++l).take (n+l.length)=ws.take n++l:=lx118 (by simp; omega)
theorem Om (c:Cd) (hq:Fit c) (hLd:Lead c):C1 Tryz.prog 103 [Bv c] (.tu [.jk,bA (IP c)]):=by
 obtain ⟨q1,q2,q3,q4,q5,q6,q7,q8⟩:=hq
 refine BO (Aj (lit:=false) (pm:=fun _=>none) (.cons Ab4 .nil) (.cons Baz .nil) .nil .nil) rfl Tryz.func103 rfl (by decide) (by kernel_rfl) (by simp [bA,AV.noref,norefs]) ?_
 simp only [Tryz.f103,Af,lx53,lx63,Nat.reduceAdd,Nat.reduceSub,List.replicate]
 have hsz:decide ((c.ins.length:Int) * 8≤140737488355328)=true:=Ae
 have hsz2:decide ((c.ins.length:Int)≤(c.ins.length:Int))=true:=Ae
 have g0:decide ((0:Int)≤(c.ins.length:Int))=true:=Ae
 refine Ab ?_
 refine IX (a3 hsz hsz2 @Aa) ?_
 have hst:=Aij c
 obtain ⟨n,hn⟩:∃ n,c.ins.length=n:=⟨_,rfl⟩
 simp only [hn] at hsz hsz2 g0 hst ⊢
 refine Am (σ:=Nat) (fun k cnt=>⟨Bm 0 123 [(1,.pt 0 0 0 0),(4,.sl 1 1 0 n),(5,.sc (.int .i64 k))],
   [⟨true,0,36,7,[Bv c],false⟩,⟨true,1,3,1,(List.replicate k (-1)++List.replicate (n - k) 0).map (kA .i64),false⟩],cnt⟩)
  (fun k=>k≤n) (fun k=>n - k) 0 (BT _) ?_ ?_ rfl ?_
 ·exact F4
 ·simp (maxSteps:=10000000) only [AX,AW,AA,Aa,List.map_replicate]
 rintro k cnt hk ih
 by_cases hk':k < n
 ·exact Avr
 obtain rfl:k=n:=Ai
 clear ih hk hk' hsz hsz2 g0
 have h1:decide ((k:Int) < (k:Int))=false:=Bc
 rw [OV,List.replicate_zero,lx66]
 obtain ⟨R,hR⟩:∃ R,List.replicate k (-1:Int)=R:=⟨_,rfl⟩
 rw [hR] at hst ⊢
 have hRl:R.length=k:=by rw [←hR]; simp
 refine Ab ?_
 refine BJ ?_
 simp (maxSteps:=10000000) +contextual -implicitDefEqProofs only [AX,AW,St.put,↓reduceIte,Dd,CO,Aa,h1]
 refine Av (T':=Bm 0 123 [(1,.pt 0 0 0 0),(4,.sl 1 1 0 k),(6,.vw true []),(7,.sc (.int .i64 ((0:Nat):Int)))]) ?_ (AM _) (Aw _) ?_
 ·exact F4
 refine E6 (T':=Bm 0 123 [(1,.pt 0 0 0 0),(4,.sl 1 1 0 k),(6,.sl 2 cnt 0 0),(7,.sc (.int .i64 ((0:Nat):Int)))]) cnt 218 2 (cnt+1) (by omega) (by omega) ?_ (EW _ _ _) ?_
 ·exact Ael
 refine Ac5 ?_
 refine Am (σ:=Nat × Tq) (fun y cnt=>⟨Bm 0 123 [(1,.pt 0 0 0 0),(4,.sl 1 1 0 k),(6,.sl 2 y.2.v 0 y.2.n),(7,.sc (.int .i64 y.1))],tqH c y.2,cnt⟩)
  (fun y=>y.1≤c.ens.length∧y.2.hs=R∧y.2.n≤y.2.ws.length∧HJ c y.1 R (y.2.ws.take y.2.n)) (fun y=>c.ens.length - y.1) (0,⟨R,[],0,cnt⟩) ⟨BT _,rfl,Aw _,hst⟩ (CT _) ?_ rfl ?_
 ·simp only [tqH]
  exact I1
 clear hst hR hRl
 rintro ⟨j,⟨hs,ws,n,v⟩⟩ cn ⟨hj,hR,hnl,hI⟩ ih
 simp only at hj hR hnl hI
 subst hR
 have hbd:=hI.mea
 have hlen:=hI.len
 have htl:(ws.take n).length=n:=by rw [lx68]; omega
 rw [htl] at hbd
 by_cases hj':j < c.ens.length
 ·have h1:decide ((j:Int) < (c.ens.length:Int))=true:=by rw [AR]; omega
  have h2:decide (j < c.ens.length)=true:=Ae
  have w1:IntKind.i64.wrap ((j:Int)+1)=((j+1:Nat):Int):=Ay
  have hne:=Atz hLd hI hj'
  obtain ⟨x,hx⟩:∃ x,c.ens.getD j default=x:=⟨_,rfl⟩
  rw [hx] at hne
  have ht:List.take n (ws.map TX)=(ws.take n).map TX:=by rw [List.map_take]
  have hsz:decide ((n+1) * 16≤140737488355328)=true:=Ae
  have ha:(ws.take n).map TX++[AV.ag [AV.sc (.int .i64 x.pc),AV.sc (.int .i64 0)]]=(ws.take n++[(x.pc,(0:Int))]).map TX:=Rq
  have ih:=fun v c=>ih (j+1,⟨hs,ws.take n++[(x.pc,0)],n+1,v⟩) c ⟨by simp only; omega,rfl,by simp; omega,by simp only; rw [show n+1=n+[((x.pc:Int),(0:Int))].length from rfl,SI hnl]; exact hne⟩ (by simp only; omega)
  simp only [tqH] at ih ⊢
  refine Ab ?_
  refine BJ ?_
  refine IX (Gv h1 h2 hx w1 ht hsz ha @Bw @Aa @Cq) ?_
  refine Av ?_ ?_ (Aw _) (ih (cn+1) _)
  all_goals exact qc5
 obtain rfl:j=c.ens.length:=Ai
 clear ih hj hj'
 have h1:decide ((c.ens.length:Int) < (c.ens.length:Int))=false:=Bc
 refine Ab ?_
 simp only [tqH]
 refine BJ ?_
 refine IX (a2 h1 @Aa) ?_
 refine Am (σ:=Tq) (fun y cnt=>⟨Bm 0 123 [(1,.pt 0 0 0 0),(4,.sl 1 1 0 k),(6,.sl 2 y.v 0 y.n)],tqH c y,cnt⟩)
  (fun y=>y.n≤y.ws.length∧HJ c c.ens.length y.hs (y.ws.take y.n)) (fun y=>3 * Nl y.hs+y.n) ⟨hs,ws,n,v⟩ ⟨hnl,hI⟩ ?_ ?_ rfl ?_
 ·exact F4
 ·simp only [tqH]
  exact I1
 clear hI hbd hnl hlen h1 htl
 rintro ⟨hs,ws,n,v⟩ cn ⟨hnl,hI⟩ ih
 simp only at hnl hI ih
 have hbd:=hI.mea
 have hlen:=hI.len
 have htl:(ws.take n).length=n:=by rw [lx68]; omega
 rw [htl] at hbd
 rw [hn] at hlen
 simp only [tqH] at ih ⊢
 refine Ab ?_
 by_cases IY:n=0
 ·subst IY
  have e:=Au0 hLd (by simpa using hI)
  have h1:decide ((0:Int) < ((0:Nat):Int))=false:=by decide
  exact Ap1
 obtain ⟨m,rfl⟩:∃ m,n=m+1:=⟨n - 1,by omega⟩
 have htk:ws.take (m+1)=ws.take m++[ws.getD m default]:=by rw [lx115 (by omega),lx80,lx51 (by omega)]; rfl
 obtain ⟨⟨i,h⟩,hp⟩:∃ p,ws.getD m default=p:=⟨_,rfl⟩
 rw [hp] at htk
 rw [htk] at hI
 obtain ⟨hR,p0,p2⟩:=hI.wait (i,h) (List.mem_append_right _ (lx70.2 rfl))
 simp only at hR p0 p2
 obtain ⟨p,rfl⟩:∃ p:Nat,i=(p:Int):=⟨i.toNat,by omega⟩
 have c1:decide ((0:Int) < ((m+1:Nat):Int))=true:=Ae
 have w1:IntKind.i64.wrap (((m+1:Nat):Int) - 1)=(m:Int):=Ay
 have c2:decide ((0:Int)≤(m:Int))=true:=Ae
 have c3:decide ((m:Int) < ((m+1:Nat):Int))=true:=Ae
 have c9:decide ((m:Int)≤((m+1:Nat):Int))=true:=Ae
 have c4:decide (m < ws.length)=true:=Ae
 by_cases d1:p < k
 rotate_left
 ·have e:=Ab8 hR (by omega)
  have b1:decide ((k:Int)≤(p:Int))=true:=Ae
  refine BJ ?_
  exact Ir (Ij c1 w1 c3 c4 c9 hp b1 e @Aa @G7 @Ax)
  all_goals done
 have b1:decide ((k:Int)≤(p:Int))=false:=HY
 by_cases d2:h≤48
 rotate_left
 ·have e:=W4 hR d2
  have b2:decide ((48:Int) < h)=true:=Ae
  refine BJ ?_
  exact Ir (G0 c1 w1 c3 c4 c9 hp b1 b2 e @Aa @G7 @Ax)
  all_goals done
 have b2:decide ((48:Int) < h)=false:=HY
 have c5:decide ((0:Int)≤(p:Int))=true:=Ae
 have c6:decide (p < c.ins.length)=true:=Ae
 have c7:decide ((p:Int) < (k:Int))=true:=Ae
 have c8:decide (p < hs.length)=true:=Ae
 have c10:decide ((p:Int) < (c.ins.length:Int))=true:=Ae
 obtain ⟨g,hg⟩:∃ g,hs.getD p default=g:=⟨_,rfl⟩
 have hg':Eb hs p=g:=by rw [Yk,←hg,QJ (by omega)]
 by_cases d3:0≤g
 ·have b3:decide ((0:Int)≤g)=true:=by rw [AR]; exact d3
  by_cases d4:g=h
  ·have b4:(g != h)=false:=by simp [d4]
   have ih:=fun c=>ih ⟨hs,ws,m,v⟩ c ⟨by simp only; omega,Ame hI (by omega) (by rw [hg',d4])⟩ (by simp only; omega)
   simp only at ih
   refine BJ ?_
   refine IX (a16 c1 w1 c3 c4 c9 hp b1 b2 c7 c8 hg b3 b4 @Aa @G7 @Ax) ?_
   exact LQ
  ·have b4:(g != h)=true:=by simpa using d4
   have e:=Ab9 hR (hI.mark p p0 (by omega) (by rw [hg']; exact d3)).1 (by rw [hg']; exact fun hh=>d4 hh.symm)
   refine BJ ?_
   exact Ir (a17 c1 w1 c3 c4 c9 hp b1 b2 c7 c8 hg b3 b4 e @Aa @G7 @Ax)
   repeat' (first | exact Ac (by kernel_rfl) | refine ⟨Ac (by kernel_rfl),?_⟩ | refine And.intro ?_ ?_ | fail)
   all_goals done
 have b3:decide ((0:Int)≤g)=false:=by rw [Bz]; exact d3
 obtain ⟨x,hx⟩:∃ x,c.ins.getD p default=x:=⟨_,rfl⟩
 have hxi:AD c p=x:=by rw [AD,Ha]; exact hx
 have hm:(hs.map (kA .i64)).set p (AV.sc (.int .i64 h))=(hs.set p h).map (kA .i64):=Rp
 have x1:=Am8 x.op
 by_cases d4:(Bn x.op).1≤h
 rotate_left
 ·have e:=Yj hR (fun hh=>d4 (by rw [hxi] at hh; exact hh.1))
  have b4:decide (h < (Bn x.op).1)=true:=Ae
  refine BJ ?_
  exact Ir (a24 c1 w1 c3 c4 c9 hp b1 b2 c6 c7 c8 c10 hg b3 hx hm x1 b4 e @AK @Aa @G7 @Ax @AB)
  all_goals done
 have b4:decide (h < (Bn x.op).1)=false:=HY
 by_cases d5:x.op=31∧h≠0
 ·have e:=Yj hR (fun hh=>d5.2 (by rw [hxi] at hh; exact hh.2 d5.1))
  have b5:(x.op == 31)=true:=by rw [lx85]; exact d5.1
  have b6:(h != 0)=true:=by simpa using d5.2
  refine BJ ?_
  exact Ir (a26 c1 w1 c3 c4 c9 hp b1 b2 c6 c7 c8 c10 hg b3 hx hm x1 b4 b5 b6 e @AK @Aa @G7 @Ax @AB)
  all_goals done
 have ho:Kj (AD c p) h:=by
  rw [hxi]
  exact ⟨d4,fun hh=>by
   by_cases hz:h=0
   ·exact hz
   ·exact absurd ⟨hh,hz⟩ d5⟩
 obtain ⟨hI2,hng⟩:=Amf hLd hI (by omega) d2 (by rw [hg']; exact d3) ho
 rw [hxi] at hI2
 have hE:=Bfy x p h ⟨⟨p0,by simp only; omega⟩,by simp only; omega,by simp only; omega⟩
 obtain ⟨S,hS⟩:∃ S,BR x p h=S:=⟨_,rfl⟩
 rw [hS] at hI2 hE
 simp only [AK] at hE
 have hSl:S.length≤2:=by
  rw [←hS]; unfold BR
  split
  ·simp
  ·split
   ·simp
   ·split
    ·simp
    ·split <;> simp
 have ih:=fun v c=>ih ⟨hs.set p h,ws.take m++S,m+S.length,v⟩ c ⟨by simp; omega,by simp only; rw [SI (by omega)]; exact hI2⟩ (by simp only; rw [Ha] at hng; omega)
 simp only at ih
 have ht:List.take m (ws.map TX)=(ws.take m).map TX:=by rw [List.map_take]
 have hsz:decide ((m+S.length) * 16≤140737488355328)=true:=Ae
 have ha:(ws.take m).map TX++S.map TX=(ws.take m++S).map TX:=by rw [lx12]
 clear hI hI2 hR hS hng
 cases b5:(x.op == 31) with
 | true=>
  have b6:(h != 0)=false:=by
   have:x.op=31:=by simpa using b5
   have:h=0:=by
    by_cases hz:h=0
    ·exact hz
    ·exact absurd ⟨this,hz⟩ d5
   simp [this]
  refine BJ ?_
  refine IX (MR c1 w1 c3 c4 c9 hp b1 b2 c6 c7 c8 c10 hg b3 hx hm x1 b4 b5 b6 hE ht hsz ha @AK @Aa @G7 @Ax @AB @SH @LC) ?_
  refine Av ?_ ?_ (Aw _) (ih (cn+1+1) _)
  all_goals exact qc5
 | false=>
  refine BJ ?_
  refine IX (a30 c1 w1 c3 c4 c9 hp b1 b2 c6 c7 c8 c10 hg b3 hx hm x1 b4 b5 hE ht hsz ha @AK @Aa @G7 @Ax @AB @SH @LC) ?_
  refine Av ?_ ?_ (Aw _) (ih (cn+1+1) _)
  all_goals exact qc5
def Kl (c:Cd) (k:Nat):Bool:=Lb (c.ens.getD k default) (c.ens.getD (k+1) default)
def SJ (c:Cd):Bool:=!(List.range (c.ens.length - 1)).any (fun k=>!Kl c k)
theorem Aik {c:Cd} {k:Nat} (hk:k+1 < c.ens.length) (h:Kl c k=false):SJ c=false:=by
 have:(List.range (c.ens.length - 1)).any (fun k=>!Kl c k)=true:=List.any_eq_true.2 ⟨k,IZ.2 (by omega),by simp [h]⟩
 rw [SJ,this]; rfl
theorem SK {c:Cd} (h:∀ k,k+1 < c.ens.length→Kl c k=true):SJ c=true:=by
 have:(List.range (c.ens.length - 1)).any (fun k=>!Kl c k)=false:=by
  rw [lx97]
  intro k hk
  rw [IZ] at hk
  simp [h k (by omega)]
 rw [SJ,this]; rfl
noncomputable def Bf (c:Cd):Int:=if Nk c=false then 9 else if Ic c=false then 51 else if Fu c=false then 54 else if SJ c=false then 66 else if IP c=false then 53 else 0
theorem W5 (c:Cd) (hq:Fit c):C1 Tryz.prog 98 [Bv c] (.tu [.jk,kA .i64 (Bf c)]):=by
 have hens:=hq.ens
 have x1:=Bfv c hq
 have x2:=Bau c hq
 have x3:=Bav c hq
 simp only [Aa] at x1 x2 x3
 have x4:=fun a b=>Ba8 a b
 simp only [Bw] at x4
 by_cases ht:Fu c=true
 rotate_left
 ·rw [Hs] at ht
  refine BO (Aj (lit:=false) (pm:=fun _=>none) (.cons Ar7 (.cons Ar8 (.cons Ar9 .nil))) .nil .nil .nil) rfl Tryz.func98 rfl (by decide) (by kernel_rfl) (by simp [kA,AV.noref,norefs]) ?_
  simp only [Tryz.f98,Af,lx53,lx63,Nat.reduceAdd,Nat.reduceSub,List.replicate]
  refine Ab ?_
  rw [ht] at x3
  cases h1:Nk c with
  | false=>
   exact Awt
  | true=>
  rw [h1] at x1
  cases h2:Ic c with
  | false=>
   exact Awn
  | true=>
  rw [h2] at x2
  simp (maxSteps:=10000000) +contextual -implicitDefEqProofs only [AX,AW,St.put,Ao,Al,DN,pl,↓reduceIte,Nat.reduceAdd,Nat.reduceEqDiff,Dd,Int.reduceAdd,CO,AA,Aa,x1,x2,x3,Bf,h1,h2,ht]
  all_goals done
 obtain ⟨F146,k146,e146⟩:=TY (TW c hq (Aba ht))
 simp only [Aa,AY] at e146
 refine BO (Aj (lit:=false) (pm:=fun _=>none) (.cons Ar7 (.cons Ar8 (.cons Ar9 (.cons Baa .nil)))) (.cons k146 .nil) .nil .nil) rfl Tryz.func98 rfl (by decide) (by kernel_rfl) (by simp [kA,AV.noref,norefs]) ?_
 simp only [Tryz.f98,Af,lx53,lx63,Nat.reduceAdd,Nat.reduceSub,List.replicate]
 refine Ab ?_
 rw [ht] at x3
 cases h1:Nk c with
 | false=>
  exact Awt
 | true=>
 rw [h1] at x1
 cases h2:Ic c with
 | false=>
  exact Awn
 | true=>
 rw [h2] at x2
 refine IX (a4 x1 x2 x3 @Aa) ?_
 refine Am (σ:=Nat) (fun k cnt=>⟨Bm 0 47 [(1,.pt 0 0 0 0),(4,.sc (.int .i64 ((k+1:Nat):Int)))],[⟨true,0,36,7,[Bv c],false⟩],cnt⟩)
  (fun k=>(k+1≤c.ens.length∨k=0)∧∀ j,j < k→Kl c j=true) (fun k=>c.ens.length - k) 0 ⟨by omega,by omega⟩ ?_ ?_ rfl ?_
 ·exact F4
 ·exact I1
 rintro k cnt ⟨hk,hn⟩ ih
 by_cases hk':k+1 < c.ens.length
 rotate_left
 ·have h3:decide (((k+1:Nat):Int) < (c.ens.length:Int))=false:=by rw [Bz]; omega
  have e:=SK (c:=c) (fun j hj=>hn j (by omega))
  refine Ab ?_
  cases h4:IP c with
  | false=>
   exact Avy
  | true=>
   exact Avy
 have h3:decide (((k+1:Nat):Int) < (c.ens.length:Int))=true:=Ae
 have h4:decide (k+1 < c.ens.length)=true:=Ae
 have h5:decide (k < c.ens.length)=true:=Ae
 have h6:decide ((k:Int) < (c.ens.length:Int))=true:=Ae
 have w1:IntKind.i64.wrap (((k+1:Nat):Int)+1)=((k+1+1:Nat):Int):=Ay
 have w2:IntKind.i64.wrap (((k+1:Nat):Int) - 1)=(k:Int):=Ay
 have x4:=x4 (c.ens.getD k default) (c.ens.getD (k+1) default)
 have hl:Lb (c.ens.getD k default) (c.ens.getD (k+1) default)=Kl c k:=rfl
 rw [hl] at x4
 obtain ⟨a,ha⟩:∃ a,c.ens.getD k default=a:=⟨_,rfl⟩
 obtain ⟨b,hb⟩:∃ b,c.ens.getD (k+1) default=b:=⟨_,rfl⟩
 rw [ha,hb] at x4
 clear hl
 refine Ab ?_
 cases h7:Kl c k with
 | false=>
  exact Avx
 | true=>
  exact Apw
noncomputable def f53:=Er Fit (fun c=>[Bv c]) (fun c=>kA .i64 (Bf c))
theorem e53 (c:Cd) (h:Fit c):f53 [Bv c]=some (.sc (.int .i64 (Bf c))):=
 (AJ (q:=Fit) (enc:=fun c=>[Bv c]) (out:=fun c=>kA .i64 (Bf c)) c h (by
  intro b h
  simp only [lx96,Az] at h
  rw [CS h]) :)
theorem Bb0:DK Tryz.prog 53 f53:=AE <| by
 rintro c hq
 obtain ⟨F98,k98,e98⟩:=TY (W5 c hq)
 simp only [Aa,AA] at e98
 refine Ad (Aj (lit:=false) (pm:=fun _=>none) .nil (.cons k98 .nil) .nil .nil) rfl Tryz.func53 rfl (by decide) (by kernel_rfl) (by kernel_rfl) ?_
 simp only [Tryz.f53,Af,lx53,lx63,Nat.reduceAdd,Nat.reduceSub,List.replicate]
 refine Ab ?_
 exact Ir (a2 e98 @Aa)
 all_goals done
theorem Amh (c:Cd):(decide ((4000:Int) < c.ins.length) || decide ((200:Int) < c.strs.length) || decide ((512:Int) < c.ens.length) || decide ((16:Int) < c.pri.length) || decide ((128:Int) < c.vars.length) || !F0 c.tim 0 128 || !F0 c.evs 0 128)=!Nk c:=by
 have h:∀ a b:Int,decide (a < b)=!decide (b≤a):=fun a b=>by
  by_cases c:a < b
  ·rw [Iw c,F3 (by omega)]; rfl
  ·rw [F3 c,Iw (by omega)]; rfl
 rw [Nk]
 simp only [h,Bool.not_and]
theorem Ami:DK Tryz.prog 55 f53:=AE <| by
 rintro c hq
 have hens:=hq.ens
 have x2:=Bau c hq
 have x3:=Bav c hq
 simp only [Aa] at x2 x3
 have x4:=fun a b=>Ba8 a b
 simp only [Bw] at x4
 have hlm:=Amh c
 by_cases ht:Fu c=true
 rotate_left
 ·rw [Hs] at ht
  refine Ad (Ar ((.cons Ad9 (.cons Arb (.cons Arc .nil)))) (.nil)) rfl Tryz.func55 rfl (by decide) (by kernel_rfl) (by kernel_rfl) ?_
  simp only [Tryz.f55,Af,lx53,lx63,Nat.reduceAdd,Nat.reduceSub,List.replicate]
  refine Ab ?_
  rw [ht] at x3
  cases h1:Nk c with
  | false=>
   exact Awm
  | true=>
  rw [h1] at hlm
  cases h2:Ic c with
  | false=>
   exact Awi
  | true=>
  rw [h2] at x2
  simp (maxSteps:=10000000) +contextual -implicitDefEqProofs only [AX,AW,Ap,St.put,Ao,Al,DN,pl,↓reduceIte,reduceCtorEq,Nat.reduceAdd,Nat.reduceEqDiff,Dd,Int.reduceAdd,CO,AA,Aa,Ol,hlm,x2,x3,Bf,h1,h2,ht]
  all_goals done
 obtain ⟨F103,k103,e103⟩:=TY (Om c hq (Aba ht))
 simp only [Aa,AY] at e103
 refine Ad (Aj (lit:=false) (pm:=fun _=>none) (.cons Ad9 (.cons Arb (.cons Arc (.cons Ba9 .nil)))) (.cons k103 .nil) .nil .nil) rfl Tryz.func55 rfl (by decide) (by kernel_rfl) (by kernel_rfl) ?_
 simp only [Tryz.f55,Af,lx53,lx63,Nat.reduceAdd,Nat.reduceSub,List.replicate]
 refine Ab ?_
 rw [ht] at x3
 cases h1:Nk c with
 | false=>
  exact Awm
 | true=>
 rw [h1] at hlm
 cases h2:Ic c with
 | false=>
  exact Awi
 | true=>
 rw [h2] at x2
 simp (maxSteps:=10000000) +contextual -implicitDefEqProofs only [AX,AW,Ap,St.put,Ao,Al,DN,pl,↓reduceIte,reduceCtorEq,Nat.reduceAdd,Nat.reduceEqDiff,Dd,Int.reduceAdd,CO,AA,Aa,Ol,hlm,x2,x3]
 refine Am (σ:=Nat) (fun k cnt=>⟨Bm 0 79 [(1,.pt 0 0 0 0),(3,.sc (.int .i64 ((k+1:Nat):Int)))],[⟨true,0,36,7,[Bv c],false⟩],cnt⟩)
  (fun k=>(k+1≤c.ens.length∨k=0)∧∀ j,j < k→Kl c j=true) (fun k=>c.ens.length - k) 0 ⟨by omega,by omega⟩ ?_ ?_ rfl ?_
 ·exact F4
 ·exact I1
 rintro k cnt ⟨hk,hn⟩ ih
 by_cases hk':k+1 < c.ens.length
 rotate_left
 ·have h3:decide (((k+1:Nat):Int) < (c.ens.length:Int))=false:=by rw [Bz]; omega
  have e:=SK (c:=c) (fun j hj=>hn j (by omega))
  refine Ab ?_
  cases h4:IP c with
  | false=>
   exact Aw2
  | true=>
   exact Aw2
 have h3:decide (((k+1:Nat):Int) < (c.ens.length:Int))=true:=Ae
 have h4:decide (k+1 < c.ens.length)=true:=Ae
 have h5:decide (k < c.ens.length)=true:=Ae
 have h6:decide ((k:Int) < (c.ens.length:Int))=true:=Ae
 have w1:IntKind.i64.wrap (((k+1:Nat):Int)+1)=((k+1+1:Nat):Int):=Ay
 have w2:IntKind.i64.wrap (((k+1:Nat):Int) - 1)=(k:Int):=Ay
 have x4:=x4 (c.ens.getD k default) (c.ens.getD (k+1) default)
 have hle:Lb (c.ens.getD k default) (c.ens.getD (k+1) default)=Kl c k:=rfl
 rw [hle] at x4
 obtain ⟨a,ha⟩:∃ a,c.ens.getD k default=a:=⟨_,rfl⟩
 obtain ⟨b,hb⟩:∃ b,c.ens.getD (k+1) default=b:=⟨_,rfl⟩
 rw [ha,hb] at x4
 clear hle
 refine Ab ?_
 cases h7:Kl c k with
 | false=>
  exact Avx
 | true=>
  exact Apw
structure Lm where
 lv:Int
 on:Int
 off:Int
 si:Int
 deriving DecidableEq
instance:Inhabited Lm:=⟨⟨0,0,0,0⟩⟩
def lmA (x:Lm):AV:=.ag [kA .i64 x.lv,kA .i64 x.on,kA .i64 x.off,kA .i64 x.si]
theorem HH (x:Lm):lmA x=.ag [.sc (.int .i64 x.lv),.sc (.int .i64 x.on),.sc (.int .i64 x.off),.sc (.int .i64 x.si)]:=rfl
theorem Amj {x y:Lm} (h:lmA x=lmA y):x=y:=by
 cases x; cases y; simp_all [lmA,kA]
structure Lo where
 mo:Int
 la:Int
 se:Lm
 deriving DecidableEq
instance:Inhabited Lo:=⟨⟨0,0,default⟩⟩
def Bg (x:Lo):AV:=.ag [kA .i64 x.mo,kA .i64 x.la,kA .i64 x.se.lv,kA .i64 x.se.on,kA .i64 x.se.off,kA .i64 x.se.si]
theorem Bb (x:Lo):Bg x=.ag [.sc (.int .i64 x.mo),.sc (.int .i64 x.la),.sc (.int .i64 x.se.lv),.sc (.int .i64 x.se.on),.sc (.int .i64 x.se.off),.sc (.int .i64 x.se.si)]:=rfl
theorem KH {x y:Lo} (h:Bg x=Bg y):x=y:=by
 obtain ⟨a,b,⟨c,d,e,f⟩⟩:=x; obtain ⟨a',b',⟨c',d',e',f'⟩⟩:=y; simp_all [Bg,kA]
theorem Ie {l m:List Lo}:l.map Bg=m.map Bg↔l=m:=⟨D8 (fun _ _=>KH),fun h=>by rw [h]⟩
theorem BS (l:List Lo):Db 6 (l.map Bg)=true:=D7 (f:=Bg) (fun _=>rfl) l
theorem Jj (l:List Lo):norefs (l.map Bg)=true:=C4 (f:=Bg) (fun _=>by simp [Bg,kA,AV.noref,norefs]) l
structure Rs where
 zv:Bool
 vars:List Int
 zl:Bool
 left:List Int
 act:Int
 zm:Bool
 lamps:List Lo
 fau:Int
instance:Inhabited Rs:=⟨⟨true,[],true,[],0,true,[],0⟩⟩
def Fv (s:Rs):AV:=.ag [.vw s.zv (s.vars.map (kA .i64)),.vw s.zl (s.left.map (kA .i64)),.sc (.int .u32 s.act),.vw s.zm (s.lamps.map Bg),kA .i64 s.fau]
theorem Aq (s:Rs):Fv s=.ag [.vw s.zv (s.vars.map (kA .i64)),.vw s.zl (s.left.map (kA .i64)),.sc (.int .u32 s.act),.vw s.zm (s.lamps.map Bg),.sc (.int .i64 s.fau)]:=rfl
theorem Jk {x y:Rs} (h:Fv x=Fv y):x=y:=by
 cases x; cases y; simp_all [Fv,kA,IM,Ie]
theorem Ade (s:Rs):(Fv s).noref=true:=by simp [Fv,kA,AV.noref,norefs]
structure Vn where
 zv:Bool
 vars:List Int
 zl:Bool
 left:List Int
 clo:Int
 act:Int
 pl':Int
 ba:Int
instance:Inhabited Vn:=⟨⟨true,[],true,[],0,0,0,0⟩⟩
def JA (v:Vn):AV:=.ag [.vw v.zv (v.vars.map (kA .i64)),.vw v.zl (v.left.map (kA .i64)),.sc (.int .u64 v.clo),.sc (.int .u32 v.act),kA .i64 v.pl',kA .i64 v.ba]
theorem AP (v:Vn):JA v=.ag [.vw v.zv (v.vars.map (kA .i64)),.vw v.zl (v.left.map (kA .i64)),.sc (.int .u64 v.clo),.sc (.int .u32 v.act),.sc (.int .i64 v.pl'),.sc (.int .i64 v.ba)]:=rfl
theorem Abd {x y:Vn} (h:JA x=JA y):x=y:=by
 cases x; cases y; simp_all [JA,kA,IM]
theorem SL (s:Vn):(JA s).noref=true:=by simp [JA,kA,AV.noref,norefs]
structure Cx where
 ti:Int
 clo:Int
 pl':Int
 ba:Int
instance:Inhabited Cx:=⟨⟨0,0,0,0⟩⟩
def JB (v:Cx):AV:=.ag [kA .i64 v.ti,.sc (.int .u64 v.clo),kA .i64 v.pl',kA .i64 v.ba]
theorem Bl (v:Cx):JB v=.ag [.sc (.int .i64 v.ti),.sc (.int .u64 v.clo),.sc (.int .i64 v.pl'),.sc (.int .i64 v.ba)]:=rfl
theorem OK {x y:Cx} (h:JB x=JB y):x=y:=by
 cases x; cases y; simp_all [JB,kA]
structure Ev where
 tr:Int
 ix:Int
 mo:Int
 deriving DecidableEq
instance:Inhabited Ev:=⟨⟨0,0,0⟩⟩
def CV (x:Ev):AV:=.ag [kA .i64 x.tr,kA .i64 x.ix,kA .i64 x.mo]
theorem AN (x:Ev):CV x=.ag [.sc (.int .i64 x.tr),.sc (.int .i64 x.ix),.sc (.int .i64 x.mo)]:=rfl
theorem KI {x y:Ev} (h:CV x=CV y):x=y:=by
 cases x; cases y; simp_all [CV,kA]
theorem TZ {l m:List Ev}:l.map CV=m.map CV↔l=m:=⟨D8 (fun _ _=>KI),fun h=>by rw [h]⟩
theorem Dg (l:List Ev):Db 3 (l.map CV)=true:=D7 (f:=CV) (fun _=>rfl) l
theorem Yn (l:List Ev):norefs (l.map CV)=true:=C4 (f:=CV) (fun _=>by simp [CV,kA,AV.noref,norefs]) l
noncomputable def f155:=Er (fun _:Int=>True) (fun x=>[kA .i64 x]) (fun _=>bA false)
theorem Au2 (x:Int):f155 [.sc (.int .i64 x)]=some (.sc (.bool false)):=
 (AJ (q:=fun _:Int=>True) (enc:=fun x=>[kA .i64 x]) (out:=fun _=>bA false) x trivial (by intro y h; simpa [kA] using h) :)
theorem Bb1:DK Tryz.prog 155 f155:=AE <| by
 rintro x -
 refine Ad (Ar (.nil) (.nil)) rfl Tryz.func155 rfl (by decide) (by kernel_rfl) (by kernel_rfl) ?_
 simp only [Tryz.f155,Af,lx53,lx63,Nat.reduceAdd,Nat.reduceSub,List.replicate]
 refine Ab ?_
 simp (maxSteps:=10000000) +contextual -implicitDefEqProofs only [AX,AW,St.put,AA,AY]
def GG (x y:Int):Int:=if x < y then -1 else if y < x then 1 else 0
theorem Abe (x y:Int):GG x y < 0↔x < y:=by
 unfold GG; split
 ·omega
 ·split <;> omega
noncomputable def f112:=Er (fun _:Int × Int=>True) (fun p=>[kA .i64 p.1,kA .i64 p.2]) (fun p=>kA .i64 (GG p.1 p.2))
theorem Bb2 (x y:Int):f112 [.sc (.int .i64 x),.sc (.int .i64 y)]=some (.sc (.int .i64 (GG x y))):=
 (AJ (q:=fun _:Int × Int=>True) (enc:=fun p=>[kA .i64 p.1,kA .i64 p.2]) (out:=fun p=>kA .i64 (GG p.1 p.2)) (x,y) trivial (by rintro ⟨a,b⟩ h; simp_all [kA]) :)
theorem Arf:DK Tryz.prog 112 f112:=AE <| by
 rintro ⟨x,y⟩ -
 refine Ad (Ar ((.cons Bb1 .nil)) (.nil)) rfl Tryz.func112 rfl (by decide) (by kernel_rfl) (by kernel_rfl) ?_
 simp only [Tryz.f112,Af,lx53,lx63,Nat.reduceAdd,Nat.reduceSub,List.replicate]
 refine Ab ?_
 rcases Int.lt_trichotomy x y with h | h | h
 ·have hc:GG x y=-1:=by simp [GG,h]
  exact I2 (a3 h hc @Au2)
 ·have hc:GG x y=0:=by simp [GG,h]
  have h1:¬ x < y:=Ai
  have h2:¬ y < x:=Ai
  exact I2 (a4 h1 h2 hc @Au2)
 ·have h1:¬ x < y:=by omega
  have hc:GG x y=1:=by simp [GG,h,h1]
  exact I2 (a4 h h1 hc @Au2)
def orN (l:List Int):Int:=(l.find? (fun x=>x != 0)).getD 0
theorem Au3 {l:List Int} {k:Nat} (hk:k < l.length) (h:(l.getD k default != 0)=true) (hn:∀ j,j < k→(l.getD j default != 0)=false):orN l=l.getD k default:=by
 have:l.find? (fun x=>x != 0)=some (l.getD k default):=by
  rw [List.find?_eq_some_iff_getElem]
  refine ⟨h,k,hk,by rw [lx80,lx51 hk]; rfl,fun j hj=>?_⟩
  exact Apr
 rw [orN,this]; rfl
theorem Au4 {l:List Int} (hn:∀ j,j < l.length→(l.getD j default != 0)=false):orN l=0:=by
 have:l.find? (fun x=>x != 0)=none:=by
  rw [List.find?_eq_none]
  intro x hx
  obtain ⟨j,hj,rfl⟩:=lx69 hx
  have:=hn j hj
  rw [lx80,lx51 hj] at this
  simpa using this
 rw [orN,this]; rfl
noncomputable def f118:=Er (fun l:Bool × List Int=>l.2.length≤1000000) (fun l=>[.vw l.1 (l.2.map (kA .i64))]) (fun l=>kA .i64 (orN l.2))
theorem Bg0 (z:Bool) (a b:Int):f118 [.vw z [.sc (.int .i64 a),.sc (.int .i64 b)]]=some (.sc (.int .i64 (orN [a,b]))):=
 (AJ (q:=fun l:Bool × List Int=>l.2.length≤1000000) (enc:=fun l=>[.vw l.1 (l.2.map (kA .i64))]) (out:=fun l=>kA .i64 (orN l.2)) (z,[a,b]) (by simp) (by
  rintro ⟨x,y⟩ h
  simp only [lx96,AV.vw.injEq,IM,Az] at h
  rw [h.1,h.2]) :)
theorem Bb3:DK Tryz.prog 118 f118:=AE <| by
 rintro ⟨z,l⟩ hq
 simp only at hq
 refine Ad (Ar (.nil) (.nil)) rfl Tryz.func118 rfl (by decide) (by kernel_rfl) (by kernel_rfl) ?_
 simp only [Tryz.f118,Af,lx53,lx63,Nat.reduceAdd,Nat.reduceSub,List.replicate]
 refine qd4 ?_
 refine Am (σ:=Nat) (fun k cnt=>⟨Bm 0 18 [(3,.sc (.int .i64 0)),(6,.vw z (l.map (kA .i64))),(7,.sc (.int .i64 l.length)),(8,.sc (.int .i64 k))],[],cnt⟩)
  (fun k=>k≤l.length∧∀ j,j < k→(l.getD j default != 0)=false) (fun k=>l.length - k) 0 ⟨by omega,by omega⟩ ?_ trivial rfl ?_
 ·exact F4
 rintro k cnt ⟨hk,hn⟩ ih
 refine Ab ?_
 by_cases hk':k < l.length
 ·have h1:decide ((k:Int) < (l.length:Int))=true:=by rw [AR]; omega
  have h2:decide (k < l.length)=true:=Ae
  have w1:IntKind.i64.wrap ((k:Int)+1)=((k+1:Nat):Int):=Ay
  cases h3:l.getD k default != 0 with
  | true=>
   have e:=Au3 hk' h3 hn
   obtain ⟨x,hx⟩:∃ x,l.getD k default=x:=⟨_,rfl⟩
   rw [hx] at h3 e
   refine BJ ?_
   exact I2 (a5 h1 h2 hx h3 e)
   all_goals done
  | false=>
   have ih:=fun c=>ih (k+1) c ⟨by omega,Bd hn h3⟩ (by omega)
   obtain ⟨x,hx⟩:∃ x,l.getD k default=x:=⟨_,rfl⟩
   rw [hx] at h3
   refine BJ ?_
   refine NC (a5 h1 h2 hx h3 w1) ?_
   refine Av ?_ ?_ (Aw _) (ih _)
   all_goals exact YZ
 ·have hkl:k=l.length:=by omega
  subst hkl
  have h1:decide ((l.length:Int) < (l.length:Int))=false:=Bc
  have e:=Au4 hn
  refine BJ ?_
  simp (maxSteps:=10000000) +contextual -implicitDefEqProofs only [AX,AW,St.put,↓reduceIte,h1,e]
  all_goals done
def Iq (a b:Lo):Int:=orN [GG a.mo b.mo,GG a.la b.la]
theorem Abf (a b:Int):orN [a,b]=if a=0 then b else a:=by
 by_cases h:a=0
 ·subst h
  by_cases h2:b=0
  ·subst h2; rfl
  ·simp [orN,h2]
 ·simp [orN,h]
theorem Abg (a b:Lo):Iq a b < 0↔a.mo < b.mo∨a.mo=b.mo∧a.la < b.la:=by
 rw [Iq,Abf]
 have h1:=Abe a.mo b.mo
 have h2:=Abe a.la b.la
 have h3:GG a.mo b.mo=0↔a.mo=b.mo:=by
  unfold GG; split
  ·omega
  ·split <;> omega
 split
 ·rename_i h; rw [h2]; have:=h3.1 h; omega
 ·rename_i h; rw [h1]; have:a.mo≠b.mo:=fun hh=>h (h3.2 hh); omega
noncomputable def f80:=Er (fun _:Lo × Lo=>True) (fun p=>[Bg p.1,Bg p.2]) (fun p=>kA .i64 (Iq p.1 p.2))
theorem e80 (a b:Lo):f80 [Bg a,Bg b]=some (.sc (.int .i64 (Iq a b))):=
 (AJ (q:=fun _:Lo × Lo=>True) (enc:=fun p=>[Bg p.1,Bg p.2]) (out:=fun p=>kA .i64 (Iq p.1 p.2)) (a,b) trivial (by
  rintro ⟨x,y⟩ h
  simp only [lx96,Az] at h
  rw [KH h.1,KH h.2]) :)
theorem Bb4:DK Tryz.prog 80 f80:=AE <| by
 rintro ⟨a,b⟩ -
 refine Ad (Ar ((.cons Arf (.cons Bb3 .nil))) (.nil)) rfl Tryz.func80 rfl (by decide) (by kernel_rfl) (by kernel_rfl) ?_
 simp only [Tryz.f80,Af,lx53,lx63,Nat.reduceAdd,Nat.reduceSub,List.replicate]
 refine Ab ?_
 simp (maxSteps:=10000000) +contextual -implicitDefEqProofs only [AX,AW,St.put,Ao,Al,DN,pl,↓reduceIte,reduceCtorEq,Nat.reduceAdd,Nat.reduceLeDiff,Nat.reduceEqDiff,Nat.reduceMul,Int.reduceLT,Nat.reduceLT,Dd,Int.reduceAdd,Int.reduceMul,CO,AA,Bb,norefs,AV.noref,Bb2,Bg0,Iq]
 repeat' (first | exact Ac (by kernel_rfl) | refine ⟨Ac (by kernel_rfl),?_⟩ | refine And.intro ?_ ?_ | fail)
 all_goals done
def W6 (t:Int):Bool:=decide (0≤t) && decide (t≤1099511627776)
noncomputable def f117:=Er (fun _:Int=>True) (fun x=>[kA .i64 x]) (fun x=>bA (W6 x))
theorem Bg1 (x:Int):f117 [.sc (.int .i64 x)]=some (.sc (.bool (W6 x))):=
 (AJ (q:=fun _:Int=>True) (enc:=fun x=>[kA .i64 x]) (out:=fun x=>bA (W6 x)) x trivial (by intro y h; simp only [lx96,Az] at h; rw [Bt h]) :)
theorem Bb5:DK Tryz.prog 117 f117:=AE <| by
 rintro x -
 refine Ad (Ar (.nil) (.nil)) rfl Tryz.func117 rfl (by decide) (by kernel_rfl) (by kernel_rfl) ?_
 simp only [Tryz.f117,Af,lx53,lx63,Nat.reduceAdd,Nat.reduceSub,List.replicate]
 refine Ab ?_
 simp (maxSteps:=10000000) +contextual -implicitDefEqProofs only [AX,AW,Ap,St.put,↓reduceIte,AA,AY,W6]
def Ld (x:Lm):Bool:=decide (0≤x.lv∧x.lv≤8∧(0≤x.si∧x.si≤1099511627776)∧0≤x.off∧x.off≤1000∧((x.off=0∧x.on=0)∨(0 < x.off∧1≤x.on∧x.on≤1000)))
noncomputable def f79:=Er (fun _:Lm=>True) (fun x=>[lmA x]) (fun x=>bA (Ld x))
theorem e79 (x:Lm):f79 [lmA x]=some (.sc (.bool (Ld x))):=
 (AJ (q:=fun _:Lm=>True) (enc:=fun x=>[lmA x]) (out:=fun x=>bA (Ld x)) x trivial (by intro y h; simp only [lx96,Az] at h; rw [Amj h]) :)
theorem Bg2:DK Tryz.prog 79 f79:=AE <| by
 rintro ⟨l,n,f,c⟩ -
 refine Ad (Ar ((.cons Bb5 .nil)) (.nil)) rfl Tryz.func79 rfl (by decide) (by kernel_rfl) (by kernel_rfl) ?_
 simp only [Tryz.f79,Af,lx53,lx63,Nat.reduceAdd,Nat.reduceSub,List.replicate]
 refine Ab ?_
 refine NC (a2 @HH @Bg1) ?_
 simp only [Ld,W6]
 exact Aw6
theorem Bg3:DK Tryz.prog 82 f79:=AE <| by
 rintro ⟨l,n,f,c⟩ -
 refine Ad (Ar (.nil) (.nil)) rfl Tryz.func82 rfl (by decide) (by kernel_rfl) (by kernel_rfl) ?_
 simp only [Tryz.f82,Af,lx53,lx63,Nat.reduceAdd,Nat.reduceSub,List.replicate]
 refine Ab ?_
 refine NC @HH ?_
 simp only [Ld]
 exact Aw6
def BV (a m:Int):Bool:=EO .and .u32 (ID .u32 a m) 1 == 1
def atQ (p:Rs × Int):Prop:=0≤p.2∧p.2≤1000000
noncomputable def f58:=Er atQ (fun p=>[Fv p.1,kA .i64 p.2]) (fun p=>bA (BV p.1.act p.2))
theorem e58 (s:Rs) (m:Int) (h:0≤m∧m≤1000000):f58 [Fv s,.sc (.int .i64 m)]=some (.sc (.bool (BV s.act m))):=
 (AJ (q:=atQ) (enc:=fun p=>[Fv p.1,kA .i64 p.2]) (out:=fun p=>bA (BV p.1.act p.2)) (s,m) h (by
  rintro ⟨x,y⟩ h
  simp only [lx96,Az] at h
  rw [Jk h.1,Bt h.2]) :)
theorem Adf:DK Tryz.prog 58 f58:=AE <| by
 rintro ⟨s,m⟩ ⟨h0,h1⟩
 simp only at h0 h1
 refine Ad (Ar (.nil) (.nil)) rfl Tryz.func58 rfl (by decide) (by kernel_rfl) (by kernel_rfl) ?_
 simp only [Tryz.f58,Af,lx53,lx63,Nat.reduceAdd,Nat.reduceSub,List.replicate]
 refine Ab ?_
 simp (maxSteps:=10000000) +contextual -implicitDefEqProofs only [AX,AW,St.put,↓reduceIte,reduceCtorEq,Nat.reduceAdd,Dd,Int.reduceAdd,CO,AA,AY,Aq,h0,BV]
 all_goals done
theorem Aml:DK Tryz.prog 61 f58:=AE <| by
 rintro ⟨s,m⟩ ⟨h0,h1⟩
 simp only at h0 h1
 have w:IntKind.u64.wrap m=m:=D6 (by omega) (by omega)
 refine Ad (Ar (.nil) (.nil)) rfl Tryz.func61 rfl (by decide) (by kernel_rfl) (by kernel_rfl) ?_
 simp only [Tryz.f61,Af,lx53,lx63,Nat.reduceAdd,Nat.reduceSub,List.replicate]
 refine Ab ?_
 simp (maxSteps:=10000000) +contextual -implicitDefEqProofs only [AX,AW,St.put,↓reduceIte,reduceCtorEq,Nat.reduceAdd,Dd,Int.reduceAdd,CO,AA,AY,Aq,h0,BV,w]
 all_goals done
def C2 (s:Rs) (x:Cx):Vn:=⟨s.zv,s.vars,s.zl,s.left,x.clo,s.act,x.pl',x.ba⟩
noncomputable def f78:=Er (fun _:Rs × Cx=>True) (fun p=>[Fv p.1,JB p.2]) (fun p=>JA (C2 p.1 p.2))
theorem e78 (s:Rs) (x:Cx):f78 [Fv s,JB x]=some (JA (C2 s x)):=
 (AJ (q:=fun _:Rs × Cx=>True) (enc:=fun p=>[Fv p.1,JB p.2]) (out:=fun p=>JA (C2 p.1 p.2)) (s,x) trivial (by
  rintro ⟨a,b⟩ h
  simp only [lx96,Az] at h
  rw [Jk h.1,OK h.2]) :)
theorem Bg4:VOk Tryz.prog 78 f78:=Lr <| by
 rintro ⟨s,x⟩ -
 refine BO (Aj (lit:=false) (pm:=fun _=>none) .nil .nil .nil .nil) rfl Tryz.func78 rfl (by decide) (by kernel_rfl) (SL _) ?_
 simp only [Tryz.f78,Af,lx53,lx63,Nat.reduceAdd,Nat.reduceSub,List.replicate]
 refine Ab ?_
 simp (maxSteps:=10000000) +contextual -implicitDefEqProofs only [AX,AW,St.put,Ao,Al,↓reduceIte,reduceCtorEq,Nat.reduceAdd,Nat.reduceLeDiff,Int.reduceLT,Nat.reduceLT,Dd,Int.reduceAdd,CO,Aq,AP,Bl,C2]
 all_goals done
end Go.Proofs.YtdjpkhjaibdogaaGreat
