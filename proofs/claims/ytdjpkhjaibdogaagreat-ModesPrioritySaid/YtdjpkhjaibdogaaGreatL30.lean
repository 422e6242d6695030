/-
  Lemmas towards ModesPriority (joined texts: PH, EB, EC, ED, PI, PJ, PK, PL, QB).
  Conditions: none.
-/
import Derived.Test.YtdjpkhjaibdogaaGreatL01
import Derived.Test.YtdjpkhjaibdogaaGreatL02
import Derived.Test.YtdjpkhjaibdogaaGreatL29
import Derived.Test.YtdjpkhjaibdogaaGreatL28
import Derived.Test.YtdjpkhjaibdogaaGreatL21
import Derived.Test.YtdjpkhjaibdogaaGreatL24
set_option linter.unusedSimpArgs false
set_option linter.unusedVariables false
set_option maxRecDepth 100000
set_option maxHeartbeats 80000000
namespace Go.Proofs.YtdjpkhjaibdogaaGreat
open Go Go.SX
attribute [local congr] ite_congr
def Acm:List ByteArray:=[⟨#[115,119,105,116,99,104]⟩,⟨#[99,111,105,108]⟩,⟨#[108,97,109,112]⟩,⟨#[115,111,117,110,100]⟩,⟨#[115,104,111,119]⟩,⟨#[118,97,114]⟩,⟨#[116,105,109,101,114]⟩,⟨#[101,118,101,110,116]⟩]
theorem Bp2:Ba Tryz.prog 134 [] (.vw false (Acm.map zA)):=vQ (lp:=[]) (lv:=[]) Ak Ak (by kernel_rfl)
def Fm (nm:ByteArray) (a:Int):AV:=.ag [.sc (.int .i64 8),.sc (.string nm),.sc (.int .i64 0),.sc (.int .i64 a)]
theorem Bp3 (w:Nat) (r:Rd) (R:List Blk) (cnt:Nat) (nm:ByteArray) (a0:Int) (h0:nxt r=⟨2,Bv,0,a0⟩) (h1:∃ a,nxt (r.u 1)=⟨1,nm,0,a⟩) (h2:∃ a,nxt (r.u 2)=⟨5,BX,0,a⟩) (hi:r.i < 700000):
  HSpec Tryz.prog 136 [.pt 0 w 0 0,.sc (.int .i64 7)] (Ck w r::R) cnt (Fm nm a0) (Ck w (r.u 3)::R) (cnt+4):=by
 obtain ⟨a1,h1⟩:=h1
 obtain ⟨a2,h2⟩:=h2
 have g0:=Ta r
 have g2:=fun R cnt=>Bar w (r.u 1) R cnt (by rw [h1]) (by show r.i+1 < 1000000; omega)
 have g3:=fun R cnt=>Sv w (r.u 2) R BX cnt (by rw [Nd,h2]; rfl) (by show r.i+2 < 1000000; omega)
 rw [h0] at g0
 rw [h1] at g2
 rw [show (r.u 1).up=r.u 2 from rfl] at g2
 rw [show (r.u 2).up=r.u 3 from rfl] at g3
 have w1:IntKind.i64.wrap ((r.i:Int)+1)=((r.i+1:Nat):Int):=B8
 have w2:IntKind.i64.wrap 8=8:=rfl
 simp only [Ey] at g0
 simp only [E4,H5,Rd.u,BX] at g0 g2 g3 ⊢
 simp only [Fm]
 refine Ad (Af (lit:=true) (pm:=fun _=>none) (.cons Nc .nil) .nil .nil (.cons UO (.cons Ax7 .nil))) rfl Tryz.func136 rfl (by decide) (by kernel_rfl) ?_
 simp only [Tryz.f136,Ae,lx52,lx63,Nat.reduceAdd,Nat.reduceSub,List.replicate]
 refine Ac ?_
 refine Dz (HO g0 g2 g3 w1 w2 @lsA @ga0 @gs0 @ga1 @gs1) ?_
 exact qc6
noncomputable def f136:=rdF 136 (fun n:Int=>[.sc (.int .i64 n)]) (fun _ r=>Fm (nxt (r.u 1)).tx (nxt r).at') (fun _ r=>r.u 3) (fun _ _=>4)
theorem Bi3:Jo Tryz.prog 136 f136:=Ee _ _ _
theorem Bp4 (w:Nat) (r:Rd) (R:List Blk) (cnt:Nat) (nm:ByteArray) (a0:Int) (h0:nxt r=⟨2,Bv,0,a0⟩) (h1:∃ a,nxt (r.u 1)=⟨1,nm,0,a⟩) (h2:∃ a,nxt (r.u 2)=⟨5,BX,0,a⟩) (hi:r.i < 700000):
  f136 [.pt 0 w 0 0,.sc (.int .i64 7)] (Ck w r::R) cnt=some (Fm nm a0,Ck w (r.u 3)::R,cnt+4):=by
 have e1:Fm (nxt (r.u 1)).tx (nxt r).at'=Fm nm a0:=by obtain ⟨a,h1⟩:=h1; rw [h1,h0]
 have h:=Bp3 w r R cnt nm a0 h0 h1 h2 hi
 have:=Hl (g:=136) (res:=fun (_:Int) r=>Fm (nxt (r.u 1)).tx (nxt r).at') (nx:=fun _ r=>r.u 3) (k:=fun _ _=>4) Iy (w:=w) (r:=r) (R:=R) (x:=7) (cnt:=cnt) (by rw [e1]; exact h)
 rw [e1] at this
 exact this
theorem Ag4 (id ver:Nat) {l l':List Blk} (h:NwH id ver l l'):∀ A:List Blk,NwH id ver (A++l) (A++l')
 | []=>h
 | b::A=>by rw [lx90,lx90,It,Anb]; exact ⟨trivial,Ag4 id ver h A⟩
def vN (v:Nat) (kj:Nat→Nat):Nat→Nat
 | 0=>v
 | j+1=>vN v kj j+1+kj j+1
theorem s94 (w:Nat) (R:List Blk) (cnt:Nat) (nm:ByteArray) (a0:Int) (n:Nat) (hn:n≤16) (rj:Nat→Rd) (mj:List AV) (hmj:mj.length=n) (r:Rd)
  (h0:nxt r=⟨2,Bv,0,a0⟩) (h1:∃ a,nxt (r.u 1)=⟨1,nm,0,a⟩) (h2:∃ a,nxt (r.u 2)=⟨5,BX,0,a⟩) (hi:r.i < 700000) (Kp:r.u 3=rj 0) (hno:Wd (nxt (rj 0)) Acm=-1)
  {F139:List AV→List Blk→Nat→Option (AV × List Blk × Nat)} (k139:Jo Tryz.prog 139 F139) (kj:Nat→Nat)
  (e139:∀ j,j < n→∀ R cnt,F139 [.pt 0 w 0 0] (Ck w (rj j)::R) cnt=some (mj.getD j .un,Ck w (rj (j+1))::R,cnt+kj j))
  (hm:∀ j,j < n→Nd (rj j) Dk=true) (hlt:∀ j,j < n→(rj j).i < (rj j).T.length) (hend:(rj n).i=(rj n).T.length)
  (hms:∀ m ∈ mj,m.cells.length=4∧m.stor=true∧m.noref=true):
  HSpec Tryz.prog 94 [.pt 0 w 0 0] (Ck w r::R) cnt (.ag [.sl (R.length+2+1) (cnt+7) 0 1,.sl (R.length+3+1) (vN (cnt+8) kj n) 0 n]) (Ck w (rj n)::(R++[dead,dead,⟨true,cnt+7,113,4,[Fm nm a0],false⟩,⟨true,vN (cnt+8) kj n,116,4,mj,false⟩])) (vN (cnt+8) kj n+1):=by
 have g1:=Sk r false Acm (by decide)
 rw [h0,show Wd ⟨2,Bv,0,a0⟩ Acm=7 from rfl] at g1
 have g2:=fun c=>Wc r 1 128 c (by decide)
 have g3:=ZB r
 have g4:=fun R cnt=>Bp4 w r R cnt nm a0 h0 h1 h2 hi
 rw [Kp] at g4
 have g5:=Sk (rj 0) false Acm (by decide)
 rw [hno] at g5
 obtain ⟨L,hL⟩:∃ L,Acm.map zA=L:=⟨_,rfl⟩
 have k134:=Ac0 Bp2
 rw [hL] at g1 g5 k134
 have k1:f0V (.vw false L) []=some (.vw false L):=rfl
 have w1:IntKind.i64.wrap 1=1:=rfl
 simp only [Fm] at g4
 simp only [Ck] at g4 e139 ⊢
 obtain ⟨A,hA⟩:∃ A,EG r=A:=⟨_,rfl⟩
 obtain ⟨A0,hA0⟩:∃ A,EG (rj 0)=A:=⟨_,rfl⟩
 rw [hA] at g1 g2 g3 g4 ⊢
 rw [hA0] at g4 g5
 refine Ad (Af (lit:=false) (pm:=fun _=>none) (.cons Sf (.cons UF (.cons Nf (.cons Sh .nil)))) (.cons k134 .nil) .nil (.cons Bi3 (.cons k139 .nil))) rfl Tryz.func94 rfl (by decide) (by kernel_rfl) ?_
 simp only [Tryz.f94,Ae,lx52,lx63,Nat.reduceAdd,Nat.reduceSub,List.replicate]
 refine Ac ?_
 refine Dz (a2 g1 k1) ?_
 refine Bd ?_
 refine Dz (Jk g2 g3 g4 g5 k1 w1 @lsA @gl3 @ga1 @gs1 @ga2) ?_
 repeat' (first | exact Aa (by kernel_rfl) | refine ⟨Aa (by kernel_rfl),?_⟩ | refine And.intro ?_ ?_ | fail)
 refine AD ?_
 simp (maxSteps:=10000000) +contextual -implicitDefEqProofs only [AX,AT,St.put,↓reduceIte,Int.reduceLE,B9]
 refine HX (T':=_) (H':=⟨true,w,173,7,[A0],false⟩::(R++[⟨true,cnt,56,2,[.ag [.vw true [],.vw true []]],false⟩,⟨true,cnt+1,56,2,[.ag [.sl (R.length+2+1) (cnt+7) 0 1,.sl (R.length+3+1) (cnt+8) 0 0]],false⟩,⟨true,cnt+7,113,4,[.ag [.sc (.int .i64 8),.sc (.string nm),.sc (.int .i64 0),.sc (.int .i64 a0)]],false⟩])) (cnt+8) 116 4 (cnt+9) (by omega) (by omega) (Cr _ _ _) ?_ ?_
 ·simp only [lx52,lx7,lx63,CL,Nat.reduceAdd]
  refine ⟨.inl rfl,?_⟩
  refine Ag4 _ _ ?_ R
  refine ⟨.inl rfl,.inr (.inr ⟨rfl,rfl,rfl,rfl,?_⟩),.inl rfl,trivial⟩
  exact ⟨I6 ⟨.refl _,.nil,trivial⟩,trivial⟩
 rw [lx90,lx6]
 refine Ak0 ?_
 refine Az (σ:=Nat) (fun j _=>⟨CW 0 65 [(0,.pt 0 w 0 0),(2,.pt (R.length+1) cnt 0 0),(3,.pt (R.length+1+1) (cnt+1) 0 0)],⟨true,w,173,7,[EG (rj j)],false⟩::(R++[⟨true,cnt,56,2,[.ag [.vw true [],.vw true []]],false⟩,⟨true,cnt+1,56,2,[.ag [.sl (R.length+2+1) (cnt+7) 0 1,.sl (R.length+3+1) (vN (cnt+8) kj j) 0 j]],false⟩,⟨true,cnt+7,113,4,[.ag [.sc (.int .i64 8),.sc (.string nm),.sc (.int .i64 0),.sc (.int .i64 a0)]],false⟩,⟨true,vN (cnt+8) kj j,116,4,mj.take j,false⟩]),vN (cnt+8) kj j+1⟩)
  (fun j=>j≤n) (fun j=>n - j) 0 (by omega) ?_ ?_ rfl ?_
 ·exact Gm
 ·simp (maxSteps:=10000000) only [AX,AT,hA0,vN]
  all_goals first | exact Aq _ | skip
 rintro j c hj ih
 obtain ⟨V,hV⟩:∃ V,vN (cnt+8) kj j=V:=⟨_,rfl⟩
 by_cases hjn:j < n
 rotate_left
 ·obtain rfl:j=n:=by omega
  have h1:decide (((rj j).i:Int) < ((rj j).T.length:Int))=false:=by rw [hend]; simp
  have l1:=ZB (rj j)
  have htk:mj.take j=mj:=by rw [←hmj,lx73]
  rw [hV,htk]
  obtain ⟨q,hq⟩:∃ q,rj j=q:=⟨_,rfl⟩
  rw [hq] at h1 l1 ⊢
  simp only [E4] at l1 ⊢
  refine Ac ?_
  refine Cb ?_
  refine Dz (a5 h1 l1 @ga0 @gs0 @ga1) ?_
  repeat' (first | exact Aa (by kernel_rfl) | refine ⟨Aa (by kernel_rfl),?_⟩ | refine And.intro ?_ ?_ | fail)
  all_goals first | exact .refl _ | (refine Kj _ ?_ _; exact ⟨.inl rfl,.inl rfl,.inr (.inl rfl),.inr (.inl rfl),trivial⟩) | omega | skip
 have h1:decide (((rj j).i:Int) < ((rj j).T.length:Int))=true:=AA (by have:=hlt j hjn; omega)
 have l1:=ZB (rj j)
 have l2:=Sg (rj j) Dk
 rw [hm j hjn] at l2
 have l3:=fun c=>Wc (rj j) ((j+1:Nat):Int) 16 c (by omega)
 have l4:=e139 j hjn
 have w2:IntKind.i64.wrap ((j:Int)+1)=((j+1:Nat):Int):=B8
 have hg:mj.getD j .un=mj[j]'(by omega):=Ajw
 obtain ⟨m4,ms,mr⟩:=hms (mj.getD j .un) (by rw [hg]; exact lx89 _)
 have htk:mj.take (j+1)=mj.take j++[mj.getD j .un]:=by rw [hg,lx109 (by omega)]
 have ih:=ih (j+1) c (by omega) (by omega)
 simp only [vN,hV,htk] at ih
 rw [hV]
 obtain ⟨k,hk⟩:∃ k,kj j=k:=⟨_,rfl⟩
 obtain ⟨m,hm'⟩:∃ m,mj.getD j .un=m:=⟨_,rfl⟩
 obtain ⟨q,hq⟩:∃ q,rj j=q:=⟨_,rfl⟩
 obtain ⟨A1,hA1⟩:∃ A,EG (rj (j+1))=A:=⟨_,rfl⟩
 obtain ⟨M,hM⟩:∃ M,mj.take j=M:=⟨_,rfl⟩
 have hMl:M.length=j:=by rw [←hM,lx68]; omega
 have hM4:Bs 4 M=true:=by
  rw [←Ih,lx28]
  intro x hx
  rw [←hM] at hx
  exact AA (hms x (lx38 hx)).1
 have hcap:decide ((j+1) * 56≤140737488355328)=true:=AA (by omega)
 have hMt:M.take j=M:=lx12 (by omega)
 rw [hk,hm',hA1,hM] at ih
 rw [hk,hm',hA1,hq] at l4
 rw [hm'] at m4 ms mr
 rw [hq] at h1 l1 l2 l3
 rw [hq,hM]
 simp only [E4,Dk] at l1 l2 l3 l4 ⊢
 refine Ac ?_
 refine Cb ?_
 refine Dz (a18 h1 l1 l2 l3 l4 w2 m4 ms mr hcap hMt @lsA @gl5 @ga1 @gs1 @ga3 @gs3 @ga4) ?_
 repeat' (first | exact Aa (by kernel_rfl) | refine ⟨Aa (by kernel_rfl),?_⟩ | refine And.intro ?_ ?_ | fail)
 refine AB ?_ ?_ (Av _) ih
 all_goals simp (maxSteps:=10000000) only [AX,AT,↓reduceIte,reduceCtorEq,Nat.reduceAdd,Nat.reduceEqDiff,CW,Jw]
 all_goals first | exact Aq _ | skip
theorem t94 (w:Nat) (R:List Blk) (cnt:Nat) (nm:ByteArray) (a0:Int) (n:Nat) (hn:n≤16) (rj:Nat→Rd) (mj:List AV) (hmj:mj.length=n) (r:Rd)
  (h0:nxt r=⟨2,Bv,0,a0⟩) (h1:∃ a,nxt (r.u 1)=⟨1,nm,0,a⟩) (h2:∃ a,nxt (r.u 2)=⟨5,BX,0,a⟩) (hi:r.i < 700000) (Kp:r.u 3=rj 0) (hno:Wd (nxt (rj 0)) Acm=-1)
  {F139:List AV→List Blk→Nat→Option (AV × List Blk × Nat)} (k139:Jo Tryz.prog 139 F139) (kj:Nat→Nat)
  (e139:∀ j,j < n→∀ R cnt,F139 [.pt 0 w 0 0] (Ck w (rj j)::R) cnt=some (mj.getD j .un,Ck w (rj (j+1))::R,cnt+kj j))
  (hm:∀ j,j < n→Nd (rj j) Dk=true) (hlt:∀ j,j < n→(rj j).i < (rj j).T.length) (hend:(rj n).i=(rj n).T.length)
  (hms:∀ m ∈ mj,m.cells.length=4∧m.stor=true∧m.noref=true):
  HSpec Tryz.prog 94 [.pt 0 w 0 0] (Ck w r::R) cnt (.ag [.vw false [Fm nm a0],.vw false mj]) (Ck w (rj n)::R) (vN (cnt+8) kj n+1):=by
 have h:=s94 w R cnt nm a0 n hn rj mj hmj r h0 h1 h2 hi Kp hno k139 kj e139 hm hlt hend hms
 have hnr:norefs mj=true:=by
  have:∀ l:List AV,(∀ m ∈ l,m.noref=true)→norefs l=true:=by
   intro l
   induction l with
   | nil=>intro _; rfl
   | cons x l ih=>intro h; simp only [norefs,h x (by simp),ih fun m hm=>h m (by simp [hm]),Bool.and_self]
  exact this mj fun m hm=>(hms m hm).2.2
 obtain ⟨V,hV⟩:∃ V,vN (cnt+8) kj n=V:=⟨_,rfl⟩
 rw [hV] at h ⊢
 obtain ⟨A,hA⟩:∃ A,Ck w (rj n)::R=A:=⟨_,rfl⟩
 have hAl:A.length=R.length+1:=by rw [←hA]; rfl
 rw [←lx90,hA] at h
 rw [hA]
 have h2:=h.frz A.length (A.length+3) ⟨true,V,116,4,mj,false⟩ (by rw [apK _ _ _ 3 rfl]; rfl) rfl (by rw [hAl]; simp) hnr
 rw [Qn _ _ _ _ _ _ _ (by omega) (by omega)] at h2
 have e1:IV (A.length+3) V mj A.length (0+A.length) [dead,dead,⟨true,cnt+7,113,4,[Fm nm a0],false⟩,⟨true,V,116,4,mj,false⟩]=[dead,dead,⟨true,cnt+7,113,4,[Fm nm a0],false⟩,dead]:=by
  simp [IV,D3,Er,Fm,dead]
 simp only at h2
 rw [e1] at h2
 have h3:=ZR h2 2 _ rfl rfl (by rw [hAl]; simp) rfl
 have e2:Pl (A.length+2) (cnt+7) [Fm nm a0] (Pl (A.length+3) V mj (.ag [.sl (R.length+2+1) (cnt+7) 0 1,.sl (R.length+3+1) V 0 n]))=.ag [.vw false [Fm nm a0],.vw false mj]:=by
  have q1:R.length+2+1=A.length+2:=An
  rw [q1,show A.length+2+1=A.length+3 from rfl]
  simp [Pl,Er,D3,←hmj]
 simp only at h3
 rw [e2] at h3
 exact h3
def tLf (t:Tp) (k a:Nat):List In × Nat:=
 if k=1 then ((Gi t 1 a).1++[⟨15,0⟩],(Gi t 1 a).2)
 else if k=2 then ([⟨16+(LZ t a 3:Nat),(LZ t (Od t a) 32:Nat)⟩],Od t (Od t a))
 else if k=3 then ((Gi t 0 a).1++[⟨19,(LZ t (Gi t 0 a).2 64:Nat)⟩],Od t (Gi t 0 a).2)
 else if k=4 then ((Gi t 0 a).1++(Gi t 0 (Gi t 0 a).2).1++[⟨20,(LZ t (Gi t 0 (Gi t 0 a).2).2 64:Nat)⟩],Od t (Gi t 0 (Gi t 0 a).2).2)
 else if k=5 then ((Gi t 1 a).1++[⟨21,(LZ t (Gi t 1 a).2 2:Nat)⟩],Od t (Gi t 1 a).2)
 else if k=6 then ([⟨22,(LZ t a 2:Nat)⟩],Od t a)
 else if k=7 then ([⟨23+(LZ t a 2:Nat),(LZ t (Od t a) 2:Nat)⟩],Od t (Od t a))
 else if k=8 then ([⟨25,(LZ t a 2:Nat)⟩],Od t a)
 else if k=9 then ([⟨26+(LZ t a 3:Nat),(LZ t (Od t a) 64:Nat)⟩],Od t (Od t a))
 else if k=10 then ((Gi t 1 a).1++[⟨29,(LZ t (Gi t 1 a).2 2:Nat)⟩],Od t (Gi t 1 a).2)
 else if k=11 then ([⟨30,0⟩],a)
 else ((Gi t 2 a).1++[⟨3,(LZ t (Gi t 2 a).2 3:Nat)⟩],Od t (Gi t 2 a).2)
def At7 (t:Tp):Nat→Nat→Nat→List In × Nat
 | 0,base,a=>tLf t (if 11 < LZ t a 15 then 0 else LZ t a 15) (Od t a)
 | d+1,base,a=>
  if LZ t a 15=12 then
   let x:=Gi t 1 (Od t a)
   let y:=At7 t d (base+x.1.length+1) x.2
   (x.1++[⟨13,((base+x.1.length+1+y.1.length:Nat):Int)⟩]++y.1,y.2)
  else if LZ t a 15=13∨LZ t a 15=14 then
   let x:=Gi t 0 (Od t a)
   let y:=At7 t d (base+x.1.length+1) x.2
   (x.1++[⟨14,((base+x.1.length+2+y.1.length:Nat):Int)⟩]++y.1++[⟨12,((base+x.1.length:Nat):Int)⟩],y.2)
  else tLf t (LZ t a 15) (Od t a)
theorem HM {P:Program} {E:Env} {n0:Nat} {rs:List ResultVar} {R:AV→St→Prop} {k:List Item} {id:Nat} {ops:Array Oper} {t:Bool} {y:Code} {s:St} (s1:St) (h1:Vc P E n0 [] (fun _ s'=>s'=s1) [.code (.region id ops t)] s)
  (h2:Go P E n0 rs R (.code y::k) s1) (hq:E.perm id≠some []:=by (intro h; cases h)):Go P E n0 rs R (.code (.seq (.region id ops t) y)::k) s:=by
 cases h1 with
 | region hr h=>
  cases h with
  | fin _ hR=>subst hR; exact .seq (.region hr h2)
 | draw hpm hr h=>
  cases h with
  | fin _ hR=>
   subst hR
   cases hb:ops.toList.any EP with
   | true=>exact .seq (.drawH hpm hb hr h2)
   | false=>exact .seq (.draw hpm (Ea _ _ _ _ hb hr) h2)
 | drawP hpm hr h=>
  cases h with
  | fin _ hR=>subst hR; exact .seq (.drawP hpm hr h2)
 | sem hpm=>exact absurd hpm hq
structure Mk where
 ins:List In
 ens:List En
 a:Nat
def mkN (t:Tp):Nat→Mk→Mk
 | 0,m=>m
 | n+1,m=>mkN t n ⟨m.ins++(At7 t 2 m.ins.length m.a).1,m.ens,(At7 t 2 m.ins.length m.a).2⟩
structure MkOk (m:Mk) (i:Nat):Prop where
 ins:m.ins.length≤49 * i
 ens:m.ens.length≤i
 a:m.a≤200
theorem Ag5 {d:Nat} {σ:Nat→Nat} {c2:Nat} {H1:List Blk} {els:List AV} (hn:norefs els=true) (hj:Hs els=true):∀ (i:Nat) (e f:AV),els[i]?=some e→els[i]?=some f→f≠.jk∧Rn d σ c2 H1 e f:=by
 intro i e f h1 h2
 rw [h1] at h2; cases h2
 exact ⟨MC hj _ (lx25 h1),.nr (Fi hn _ (lx25 h1))⟩
def Sw (l:List Nat) (j:Nat):Nat:=l.getD j 0
theorem Ao8 {P:Program} {f:Nat} {a1:List AV} {r1:AV} (h1:Ba P f a1 r1):∃ F,VOk P f F∧F a1=some r1:=by
 refine ⟨fun a=>open Classical in if a=a1 then some r1 else none,?_,by simp⟩
 intro a v hv
 simp only at hv
 split at hv
 ·rename_i e; subst e; cases hv; exact h1
 ·cases hv
theorem Bi4 {P:Program} {f:Nat} {a1:List AV} {H1:List Blk} {c1:Nat} {r1:AV} {H2:List Blk} {c2:Nat} (h:HSpec P f a1 H1 c1 r1 H2 c2):∃ F,Jo P f F∧F a1 H1 c1=some (r1,H2,c2):=by
 refine ⟨fun a H c=>open Classical in if a=a1∧H=H1∧c=c1 then some (r1,H2,c2) else none,?_,by simp⟩
 intro a H c r H' c' hv
 simp only at hv
 split at hv
 ·rename_i e
  obtain ⟨rfl,rfl,rfl⟩:=e
  cases hv; exact h
 ·cases hv
theorem s51 (s:ByteArray) (T:List Tok) (z:Bool) (D M:List AV) (r':Rd) (hs:s.size < 1000000) (h93:Ba Tryz.prog 93 [.sc (.string s)] (.tu [.vw z (T.map Ey),.sc (.int .i64 0),.sc (.int .i64 0)]))
  (h94:∀ w R cnt,∃ c',HSpec Tryz.prog 94 [.pt 0 w 0 0] (Ck w ⟨z,T,s.size,0,0,0⟩::R) cnt (.ag [.vw false D,.vw false M]) (Ck w r'::R) c'):
  Ba Tryz.prog 51 [.sc (.string s)] (.tu [.ag [.vw false D,.vw false M],.sc (.int .i64 0),.sc (.int .i64 0)]):=by
 obtain ⟨F93,k93,e93⟩:=Ao8 h93
 obtain ⟨c94,h94⟩:=h94 1 [⟨true,0,56,2,[.ag [.vw true [],.vw true []]],false⟩] 2
 obtain ⟨F94,k94,e94⟩:=Bi4 h94
 simp only [H5,Int.natCast_zero] at e94
 have l1:=ZB r'
 simp only [E4] at l1
 refine BP (Af (lit:=false) (pm:=fun _=>none) (.cons Sf .nil) (.cons k93 .nil) .nil (.cons k94 .nil)) rfl Tryz.func51 rfl (by decide) (by kernel_rfl) (by simp [Al4,Ro,Al3,JO,Aay,AV.noref,norefs,kA,bA]) ?_
 simp only [Tryz.f51,Ae,lx52,lx63,Nat.reduceAdd,Nat.reduceSub,List.replicate]
 refine HM ?s1 ?h1 ?h2
 case h1=>
  simp (maxSteps:=10000000) +contextual -implicitDefEqProofs only [AX,AT,St.put,Nat.reduceAdd,CS,Int.reduceAdd,B9]
  rfl
 refine HM ?s2 ?h3 ?h4
 case h3=>
  refine Dz e93 ?_
  rfl
 refine .seq ?_
 refine HM ?s3 ?h5 ?h6
 case h5=>
  refine qd9 ?_
  rfl
 refine Be5 ?_
 refine HM ?s4 ?h7 ?h8
 case h7=>
  refine Dz @BJ ?_
  rfl
 refine HU 0 1 (Bq _) (Bq _) (by simp) (by simp) ?_ ?_
 ·exact Aqm
 refine qd5 ?_
 refine Ac ?_
 exact Pd (a2 e94 l1)
 repeat' (first | exact Aa (by kernel_rfl) | refine ⟨Aa (by kernel_rfl),?_⟩ | refine And.intro ?_ ?_ | fail)
 all_goals first | exact .refl _ | rfl | skip
end Go.Proofs.YtdjpkhjaibdogaaGreat
namespace Go.Proofs.YtdjpkhjaibdogaaGreat
open Go Go.SX
def Hu (v a1 a0 c0:Int) (c:Bool):List AV:=E9 v a1 a0::bif c then [JA c0] else []
theorem Bi5 (v a1 a0:Int):Ba Tryz.prog 168 [.vw false [E9 v a1 a0]] (.vw false [E9 v 0 0]):=vQ (lp:=[]) (lv:=[]) Ak Ak (by kernel_rfl)
theorem Bi6 (v a1 a0 c0:Int):Ba Tryz.prog 168 [.vw false [E9 v a1 a0,JA c0]] (.vw false [E9 v 0 0,JA 0]):=vQ (lp:=[]) (lv:=[]) Ak Ak (by kernel_rfl)
theorem Bp5 (v a1 a0 c0:Int) (c:Bool):Ba Tryz.prog 168 [.vw false (Hu v a1 a0 c0 c)] (.vw false (Hu v 0 0 0 c)):=by
 cases c
 ·exact Bi5 v a1 a0
 ·exact Bi6 v a1 a0 c0
structure Mo where
 nm:ByteArray
 p:Int
 s:Int
 c:Bool
deriving Inhabited
def wE:ByteArray:=⟨#[101]⟩
structure Tkn where
 k:Int
 tx:ByteArray
 v:Int
deriving Inhabited
def Dw (m:Mo):List Tkn:=⟨2,Dk,0⟩::⟨1,m.nm,0⟩::⟨3,⟨#[]⟩,m.p⟩::⟨5,Oe,0⟩::⟨2,Tg,0⟩::⟨2,Bv,0⟩::⟨1,wE,0⟩::⟨5,Oe,0⟩::⟨2,Dg,0⟩::⟨3,⟨#[]⟩,m.s⟩::⟨5,BX,0⟩::
 bif m.c then [⟨2,Gk,0⟩,⟨5,BX,0⟩,⟨5,Gw,0⟩,⟨5,Gw,0⟩] else [⟨5,Gw,0⟩,⟨5,Gw,0⟩]
def ZS (m:Mo):Nat:=bif m.c then 15 else 13
theorem ZV (m:Mo):(Dw m).length=ZS m:=by cases h:m.c <;> simp [Dw,ZS,h]
def Cf (ms:List Mo):List Tkn:=⟨2,Bv,0⟩::⟨1,wE,0⟩::⟨5,BX,0⟩::ms.flatMap Dw
def BO (ms:List Mo) (j:Nat):Nat:=3+((ms.take j).flatMap Dw).length
theorem Aio (ms:List Mo):BO ms 0=3:=rfl
theorem KE {ms:List Mo} {j:Nat} (h:j < ms.length):BO ms (j+1)=BO ms j+ZS (ms.getD j default):=by
 have e:ms.take (j+1)=ms.take j++[ms.getD j default]:=by
  exact Aqp
 rw [BO,e,lx114,lx7,List.flatMap_singleton,ZV,BO]
 omega
theorem Kk (ms:List Mo):BO ms ms.length=(Cf ms).length:=by
 rw [BO,lx73,Cf,lx52,lx52,lx52]
 omega
theorem ZW {ms:List Mo} {j:Nat} (h:j < ms.length) {k:Nat} (hk:k < ZS (ms.getD j default)):(Cf ms).getD (BO ms j+k) default=(Dw (ms.getD j default)).getD k default∧BO ms j+k < (Cf ms).length:=by
 have hg:ms.getD j default=ms[j]:=Ajx
 have e:ms.flatMap Dw=(ms.take j).flatMap Dw++(Dw ms[j]++(ms.drop (j+1)).flatMap Dw):=by
  conv=>lhs; rw [←lx67 j ms,lx76 h,lx114,List.flatMap_cons]
 have e2:Cf ms=((⟨2,Bv,0⟩::⟨1,wE,0⟩::⟨5,BX,0⟩::(ms.take j).flatMap Dw:List Tkn)++(Dw ms[j]++(ms.drop (j+1)).flatMap Dw)):=by
  rw [Cf,e]; rfl
 have hl:BO ms j=(⟨2,Bv,0⟩::⟨1,wE,0⟩::⟨5,BX,0⟩::(ms.take j).flatMap Dw:List Tkn).length:=by
  rw [BO,lx52,lx52,lx52]; omega
 rw [hg] at hk ⊢
 have hk':k < (Dw ms[j]).length:=by rw [ZV]; exact hk
 refine ⟨?_,?_⟩
 ·rw [e2,hl,lx81,lx62 (by omega),KW,lx61 hk',←lx81]
 ·rw [e2,hl,lx7,lx7]; omega
def LL (l:List Tkn) (a:Nat→Int):List Tok:=l.mapIdx fun i q=>⟨q.k,q.tx,q.v,a i⟩
theorem KF (l:List Tkn) (a:Nat→Int):(LL l a).length=l.length:=by simp [LL]
theorem Ag6 {l:List Tkn} {a:Nat→Int} {i:Nat} (h:i < l.length):(LL l a).getD i default=⟨(l.getD i default).k,(l.getD i default).tx,(l.getD i default).v,a i⟩:=by
 rw [lx81,lx50 (by rw [KF]; exact h),lx81,lx50 h]
 simp [LL]
theorem Qo {z:Bool} {l:List Tkn} {a:Nat→Int} {en:Int} {i:Nat} {op pa:Int} (h:i < l.length):nxt ⟨z,LL l a,en,i,op,pa⟩=⟨(l.getD i default).k,(l.getD i default).tx,(l.getD i default).v,a i⟩:=by
 rw [nxt,if_pos (by rw [KF]; exact h),Ag6 h]
def UP (a:Nat→Int) (m:Mo) (o:Nat):AV:=Wn m.nm m.p (.vw false [SQ wE (.vw false (Hu m.s (a (o+9)) (a (o+8)) (a (o+11)) m.c)) (a (o+4))]) (a o)
theorem Axb {ms:List Mo} {j:Nat} (h:j < ms.length) (a:Nat→Int) (z:Bool) (en op pa:Int) (k:Nat) (hk:k < ZS (ms.getD j default)) {q:Tkn} (hq:(Dw (ms.getD j default)).getD k default=q):
  nxt ⟨z,LL (Cf ms) a,en,BO ms j+k,op,pa⟩=⟨q.k,q.tx,q.v,a (BO ms j+k)⟩:=by
 obtain ⟨h1,h2⟩:=ZW h hk
 rw [Qo h2,h1,hq]
theorem Sx (m:Mo):13≤ZS m:=by cases h:m.c <;> simp [ZS,h]
theorem At8 {ms:List Mo} {j:Nat} (h:j < ms.length) (a:Nat→Int) (z:Bool) (en op pa:Int) (hb:BO ms j < 600000) (w:Nat) (R:List Blk) (cnt:Nat):
  HSpec Tryz.prog 139 [.pt 0 w 0 0] (Ck w ⟨z,LL (Cf ms) a,en,BO ms j,op,pa⟩::R) cnt (UP a (ms.getD j default) (BO ms j)) (Ck w ⟨z,LL (Cf ms) a,en,BO ms (j+1),1,0⟩::R) (cnt+moK (bif (ms.getD j default).c then 27 else 23)):=by
 have tk:=fun (op pa:Int) (k:Nat) (q:Tkn) hk hq=>Axb h a z en op pa k (q:=q) hk hq
 rw [KE h]
 generalize ms.getD j default=m at tk
 generalize hT:LL (Cf ms) a=T at tk ⊢
 generalize BO ms j=o at tk hb ⊢
 have g13:=Sx m
 have hmt:MoT ⟨z,T,en,o,op,pa⟩ m.nm m.p wE (a o) (a (o+4)):=
  ⟨tk op pa 0 _ (by omega) rfl,⟨_,tk op pa 1 _ (by omega) rfl⟩,⟨_,tk op pa 2 _ (by omega) rfl⟩,⟨_,tk op pa 3 _ (by omega) rfl⟩,tk op pa 4 _ (by omega) rfl,⟨_,tk op pa 5 _ (by omega) rfl⟩,⟨_,tk op pa 6 _ (by omega) rfl⟩⟩
 cases hc:m.c with
 | false=>
  have hn:ZS m=13:=by rw [ZS,hc]; rfl
  have h11:(Dw m).getD 11 default=⟨5,Gw,0⟩:=by rw [Dw,hc]; rfl
  have h12:(Dw m).getD 12 default=⟨5,Gw,0⟩:=by rw [Dw,hc]; rfl
  have hx:=Bi2 w ⟨z,T,en,o,op,pa⟩ R cnt m.nm wE m.p (a o) (a (o+4)) hmt (by show o < 700000; omega) [E9 m.s (a (o+9)) (a (o+8))] rfl ⟨z,T,en,o+12,1,0⟩ 23
   ⟨_,tk 1 0 12 _ (by omega) h12⟩ (by show o+12 < 900000; omega)
   (fun R cnt=>Bhz w ⟨z,T,en,o+7,op,pa⟩ R cnt 1 (by decide) _ _ _ _ _ _ (tk op pa 7 _ (by omega) rfl) (tk op pa 8 _ (by omega) rfl) (tk op pa 9 _ (by omega) rfl) (tk op pa 10 _ (by omega) rfl) (tk op pa 11 _ (by omega) h11) (by show o+7 < 800000; omega))
  rw [hn]
  simp only [UP,Hu,hc,cond_false]
  exact hx
 | true=>
  have hn:ZS m=15:=by rw [ZS,hc]; rfl
  have h11:(Dw m).getD 11 default=⟨2,Gk,0⟩:=by rw [Dw,hc]; rfl
  have h12:(Dw m).getD 12 default=⟨5,BX,0⟩:=by rw [Dw,hc]; rfl
  have h13:(Dw m).getD 13 default=⟨5,Gw,0⟩:=by rw [Dw,hc]; rfl
  have h14:(Dw m).getD 14 default=⟨5,Gw,0⟩:=by rw [Dw,hc]; rfl
  have hx:=Bi2 w ⟨z,T,en,o,op,pa⟩ R cnt m.nm wE m.p (a o) (a (o+4)) hmt (by show o < 700000; omega) [E9 m.s (a (o+9)) (a (o+8)),JA (a (o+11))] rfl ⟨z,T,en,o+14,1,0⟩ 27
   ⟨_,tk 1 0 14 _ (by omega) h14⟩ (by show o+14 < 900000; omega)
   (fun R cnt=>Bi0 w ⟨z,T,en,o+7,op,pa⟩ R cnt 1 (by decide) _ _ _ _ _ _ _ _ (tk op pa 7 _ (by omega) rfl) (tk op pa 8 _ (by omega) rfl) (tk op pa 9 _ (by omega) rfl) (tk op pa 10 _ (by omega) rfl) (tk op pa 11 _ (by omega) h11) (tk op pa 12 _ (by omega) h12) (tk op pa 13 _ (by omega) h13) (by show o+7 < 800000; omega))
  rw [hn]
  simp only [UP,Hu,hc,cond_true]
  exact hx
theorem Ao9 (m:Mo):ZS m≤15:=by cases h:m.c <;> simp [ZS,h]
theorem Aoa (a:Nat→Int) (m:Mo) (o:Nat):(UP a m o).cells.length=4∧(UP a m o).stor=true∧(UP a m o).noref=true:=by
 refine ⟨rfl,?_,?_⟩ <;> (cases h:m.c <;> simp [UP,Wn,SQ,Hu,h,AV.stor,AV.noref,norefs,E9,JA,Jq])
theorem Nl (ms:List Mo):∀ j,j≤ms.length→BO ms j≤3+15 * j
 | 0,_=>Av 3
 | j+1,h=>by
  rw [KE (by omega)]
  have:=Nl ms j (by omega)
  have h15:=Ao9 (ms.getD j default)
  omega
theorem Qp (ms:List Mo):∀ d j,j+d≤ms.length→BO ms j+13 * d≤BO ms (j+d)
 | 0,j,_=>Av _
 | d+1,j,h=>by
  have h1:=Qp ms d j (by omega)
  have h2:=KE (ms:=ms) (j:=j+d) (by omega)
  have h3:=Sx (ms.getD (j+d) default)
  rw [show j+(d+1)=j+d+1 from rfl,h2]
  omega
def rjK (z:Bool) (T:List Tok) (en:Int) (ms:List Mo) (j:Nat):Rd:=⟨z,T,en,BO ms j,bif Nat.beq j 0 then 0 else 1,0⟩
def kjK (ms:List Mo) (j:Nat):Nat:=moK (bif (ms.getD j default).c then 27 else 23)
def Fo (a:Nat→Int) (ms:List Mo):List AV:=(List.range ms.length).map fun j=>UP a (ms.getD j default) (BO ms j)
theorem ZY (ms:List Mo) (hms:ms.length≤16) (a:Nat→Int) (z:Bool) (en:Int) (w:Nat) (R:List Blk) (cnt:Nat):
  ∃ c',HSpec Tryz.prog 94 [.pt 0 w 0 0] (Ck w ⟨z,LL (Cf ms) a,en,0,0,0⟩::R) cnt (.ag [.vw false [Fm wE (a 0)],.vw false (Fo a ms)]) (Ck w (rjK z (LL (Cf ms) a) en ms ms.length)::R) c':=by
 have hl:(Cf ms).length=BO ms ms.length:=(Kk ms).symm
 have h3:3≤(Cf ms).length:=by rw [Cf,lx52,lx52,lx52]; omega
 have hoff:=fun j h=>Nl ms j h
 have mj_get:∀ j,j < ms.length→(Fo a ms).getD j .un=UP a (ms.getD j default) (BO ms j):=fun j hj=>by
  rw [Fo,lx81,lx23,SS hj]; rfl
 let D:List AV→List Blk→Nat→AV→List Blk→Nat→Prop:=fun args H cnt x H' cnt'=>∀ j w R,j < ms.length→args=[.pt 0 w 0 0]→H=Ck w (rjK z (LL (Cf ms) a) en ms j)::R→x=(Fo a ms).getD j .un∧H'=Ck w (rjK z (LL (Cf ms) a) en ms (j+1))::R∧cnt'=cnt+kjK ms j
 have hspec:∀ j,j < ms.length→∀ w R cnt,HSpec Tryz.prog 139 [.pt 0 w 0 0] (Ck w (rjK z (LL (Cf ms) a) en ms j)::R) cnt ((Fo a ms).getD j .un) (Ck w (rjK z (LL (Cf ms) a) en ms (j+1))::R) (cnt+kjK ms j):=fun j hj w R cnt=>by
  rw [mj_get j hj]
  exact At8 hj a z en (bif Nat.beq j 0 then 0 else 1) 0 (by have:=hoff j (by omega); omega) w R cnt
 have e139:∀ j,j < ms.length→∀ R cnt,hF Tryz.prog 139 D [.pt 0 w 0 0] (Ck w (rjK z (LL (Cf ms) a) en ms j)::R) cnt=some ((Fo a ms).getD j .un,Ck w (rjK z (LL (Cf ms) a) en ms (j+1))::R,cnt+kjK ms j):=fun j hj R cnt=>by
  obtain ⟨x,H',c',g1,g2⟩:=O7 (D:=D) (hspec j hj w R cnt) (by
   intro j' w' R' hj' a1 a2
   obtain ⟨rfl,hr,rfl⟩:=Ag3 a2
   have ho:BO ms j=BO ms j':=congrArg Rd.i hr
   have:j=j':=by
    rcases Nat.lt_trichotomy j j' with h | h | h
    ·have:=Qp ms (j' - j) j (by omega)
     rw [show j+(j' - j)=j' by omega] at this
     omega
    ·exact h
    ·have:=Qp ms (j - j') j' (by omega)
     rw [show j'+(j - j')=j by omega] at this
     omega
   subst this
   exact ⟨rfl,rfl,rfl⟩)
  obtain ⟨rfl,rfl,rfl⟩:=g2 j w R hj rfl rfl
  exact g1
 have n0:nxt ⟨z,LL (Cf ms) a,en,0,0,0⟩=⟨2,Bv,0,a 0⟩:=by rw [Qo (by omega)]; rfl
 have n1:nxt ⟨z,LL (Cf ms) a,en,1,0,0⟩=⟨1,wE,0,a 1⟩:=by rw [Qo (by omega)]; rfl
 have n2:nxt ⟨z,LL (Cf ms) a,en,2,0,0⟩=⟨5,BX,0,a 2⟩:=by rw [Qo (by omega)]; rfl
 have nm:∀ j,j < ms.length→nxt (rjK z (LL (Cf ms) a) en ms j)=⟨2,Dk,0,a (BO ms j)⟩:=fun j hj=>Axb hj a z en _ 0 0 (by have:=Sx (ms.getD j default); omega) rfl
 refine ⟨_,t94 w R cnt wE (a 0) ms.length hms (rjK z (LL (Cf ms) a) en ms) (Fo a ms) (by simp [Fo]) _ n0 ⟨_,n1⟩ ⟨_,n2⟩ (by show 0 < 700000; omega) rfl ?_ (Ee _ _ _) (kjK ms) e139 (fun j hj=>by rw [Nd,nm j hj]; rfl) (fun j hj=>?_) ?_ ?_⟩
 ·by_cases h0:0 < ms.length
  ·rw [nm 0 h0]; rfl
  ·have:nxt (rjK z (LL (Cf ms) a) en ms 0)=⟨0,⟨#[]⟩,0,en⟩:=by
    exact if_neg (show ¬ BO ms 0 < (LL (Cf ms) a).length by rw [KF,hl,show ms.length=0 by omega]; omega)
   rw [this]
   exact We (fun s=>rfl) _
 ·show BO ms j < (LL (Cf ms) a).length
  have:=(ZW hj (k:=0) (by have:=Sx (ms.getD j default); omega)).2
  rw [KF]; omega
 ·show BO ms ms.length=(LL (Cf ms) a).length
  rw [KF,hl]
 ·intro m hm
  obtain ⟨j,_,rfl⟩:=lx35.1 hm
  exact Aoa _ _ _
def iW (n:Int):AV:=.sc (.int .i64 n)
def yW (l:List UInt8):AV:=.sc (.string ⟨⟨l⟩⟩)
def txa:AV:=yW [115,119,105,116,99,104,32,115,32,53,59,32,109,111,100,101,32,97,32,50,32,123,32,111,110,32,99,108,111,115,101,32,115,32,123,32,115,99,111,114,101,32,49,59,32,99,111,110,115,117,109,101,59,32,125,32,125,32,109,111,100,101,32,98,32,49,32,123,32,111,110,32,99,108,111,115,101,32,115,32,123,32,115,99,111,114,101,32,50,59,32,125,32,111,110,32,115,116,97,114,116,32,123,32,108,105,103,104,116,32,108,32,51,59,32,125,32,125,32]
def txb:AV:=yW [115,119,105,116,99,104,32,115,32,53,59,32,108,97,109,112,32,108,32,57,59,32,109,111,100,101,32,97,32,50,32,123,32,111,110,32,99,108,111,115,101,32,115,32,123,32,115,99,111,114,101,32,49,59,32,99,111,110,115,117,109,101,59,32,125,32,125,32,109,111,100,101,32,98,32,49,32,123,32,111,110,32,99,108,111,115,101,32,115,32,123,32,115,99,111,114,101,32,50,59,32,125,32,111,110,32,115,116,97,114,116,32,123,32,108,105,103,104,116,32,108,32,51,59,32,125,32,125]
def rua:AV:=.ag [.vw false [.ag [iW 1,yW [115],iW 5,iW 0]],.vw false [.ag [yW [97],iW 2,.vw false [.ag [iW 3,yW [115],.vw false [.ag [iW 4,yW [],yW [],.vw false [.ag [iW 1,iW 1,yW [],.vw true [],iW 42]],.vw true [],.vw true [],iW 36],.ag [iW 19,yW [],yW [],.vw true [],.vw true [],.vw true [],iW 45]],iW 23]],iW 12],.ag [yW [98],iW 1,.vw false [.ag [iW 3,yW [115],.vw false [.ag [iW 4,yW [],yW [],.vw false [.ag [iW 1,iW 2,yW [],.vw true [],iW 88]],.vw true [],.vw true [],iW 82]],iW 69],.ag [iW 1,yW [],.vw false [.ag [iW 8,yW [108],yW [],.vw false [.ag [iW 1,iW 3,yW [],.vw true [],iW 112]],.vw true [],.vw true [],iW 104]],iW 93]],iW 58]]]
def rub:AV:=.ag [.vw false [.ag [iW 1,yW [115],iW 5,iW 0],.ag [iW 3,yW [108],iW 9,iW 12]],.vw false [.ag [yW [97],iW 2,.vw false [.ag [iW 3,yW [115],.vw false [.ag [iW 4,yW [],yW [],.vw false [.ag [iW 1,iW 1,yW [],.vw true [],iW 52]],.vw true [],.vw true [],iW 46],.ag [iW 19,yW [],yW [],.vw true [],.vw true [],.vw true [],iW 55]],iW 33]],iW 22],.ag [yW [98],iW 1,.vw false [.ag [iW 3,yW [115],.vw false [.ag [iW 4,yW [],yW [],.vw false [.ag [iW 1,iW 2,yW [],.vw true [],iW 98]],.vw true [],.vw true [],iW 92]],iW 79],.ag [iW 1,yW [],.vw false [.ag [iW 8,yW [108],yW [],.vw false [.ag [iW 1,iW 3,yW [],.vw true [],iW 122]],.vw true [],.vw true [],iW 114]],iW 103]],iW 68]]]
def cob:AV:=.ag [.vw false [.ag [iW 1,iW 1],.ag [iW 15,iW 0],.ag [iW 30,iW 0],.ag [iW 31,iW 0],.ag [iW 1,iW 3],.ag [iW 19,iW 9],.ag [iW 31,iW 0],.ag [iW 1,iW 2],.ag [iW 15,iW 0],.ag [iW 31,iW 0]],.vw true [],.vw false [.ag [iW 0,iW 3,iW 5,iW 0],.ag [iW 1,iW 1,iW 0,iW 4],.ag [iW 1,iW 3,iW 5,iW 7]],.vw false [iW 2,iW 1],.vw true [],iW 0,iW 0]
def Bi7:List AV:=[txa]
def Bi8:AV:=.tu [.vw false [.ag [iW 2,yW [115,119,105,116,99,104],iW 0,iW 0],.ag [iW 1,yW [115],iW 0,iW 7],.ag [iW 3,yW [],iW 5,iW 9],.ag [iW 5,yW [59],iW 0,iW 10],.ag [iW 2,yW [109,111,100,101],iW 0,iW 12],.ag [iW 1,yW [97],iW 0,iW 17],.ag [iW 3,yW [],iW 2,iW 19],.ag [iW 5,yW [123],iW 0,iW 21],.ag [iW 2,yW [111,110],iW 0,iW 23],.ag [iW 2,yW [99,108,111,115,101],iW 0,iW 26],.ag [iW 1,yW [115],iW 0,iW 32],.ag [iW 5,yW [123],iW 0,iW 34],.ag [iW 2,yW [115,99,111,114,101],iW 0,iW 36],.ag [iW 3,yW [],iW 1,iW 42],.ag [iW 5,yW [59],iW 0,iW 43],.ag [iW 2,yW [99,111,110,115,117,109,101],iW 0,iW 45],.ag [iW 5,yW [59],iW 0,iW 52],.ag [iW 5,yW [125],iW 0,iW 54],.ag [iW 5,yW [125],iW 0,iW 56],.ag [iW 2,yW [109,111,100,101],iW 0,iW 58],.ag [iW 1,yW [98],iW 0,iW 63],.ag [iW 3,yW [],iW 1,iW 65],.ag [iW 5,yW [123],iW 0,iW 67],.ag [iW 2,yW [111,110],iW 0,iW 69],.ag [iW 2,yW [99,108,111,115,101],iW 0,iW 72],.ag [iW 1,yW [115],iW 0,iW 78],.ag [iW 5,yW [123],iW 0,iW 80],.ag [iW 2,yW [115,99,111,114,101],iW 0,iW 82],.ag [iW 3,yW [],iW 2,iW 88],.ag [iW 5,yW [59],iW 0,iW 89],.ag [iW 5,yW [125],iW 0,iW 91],.ag [iW 2,yW [111,110],iW 0,iW 93],.ag [iW 2,yW [115,116,97,114,116],iW 0,iW 96],.ag [iW 5,yW [123],iW 0,iW 102],.ag [iW 2,yW [108,105,103,104,116],iW 0,iW 104],.ag [iW 1,yW [108],iW 0,iW 110],.ag [iW 3,yW [],iW 3,iW 112],.ag [iW 5,yW [59],iW 0,iW 113],.ag [iW 5,yW [125],iW 0,iW 115],.ag [iW 5,yW [125],iW 0,iW 117]],iW 0,iW 0]
def Bi9:List AV:=[txb]
def Bia:AV:=.tu [.vw false [.ag [iW 2,yW [115,119,105,116,99,104],iW 0,iW 0],.ag [iW 1,yW [115],iW 0,iW 7],.ag [iW 3,yW [],iW 5,iW 9],.ag [iW 5,yW [59],iW 0,iW 10],.ag [iW 2,yW [108,97,109,112],iW 0,iW 12],.ag [iW 1,yW [108],iW 0,iW 17],.ag [iW 3,yW [],iW 9,iW 19],.ag [iW 5,yW [59],iW 0,iW 20],.ag [iW 2,yW [109,111,100,101],iW 0,iW 22],.ag [iW 1,yW [97],iW 0,iW 27],.ag [iW 3,yW [],iW 2,iW 29],.ag [iW 5,yW [123],iW 0,iW 31],.ag [iW 2,yW [111,110],iW 0,iW 33],.ag [iW 2,yW [99,108,111,115,101],iW 0,iW 36],.ag [iW 1,yW [115],iW 0,iW 42],.ag [iW 5,yW [123],iW 0,iW 44],.ag [iW 2,yW [115,99,111,114,101],iW 0,iW 46],.ag [iW 3,yW [],iW 1,iW 52],.ag [iW 5,yW [59],iW 0,iW 53],.ag [iW 2,yW [99,111,110,115,117,109,101],iW 0,iW 55],.ag [iW 5,yW [59],iW 0,iW 62],.ag [iW 5,yW [125],iW 0,iW 64],.ag [iW 5,yW [125],iW 0,iW 66],.ag [iW 2,yW [109,111,100,101],iW 0,iW 68],.ag [iW 1,yW [98],iW 0,iW 73],.ag [iW 3,yW [],iW 1,iW 75],.ag [iW 5,yW [123],iW 0,iW 77],.ag [iW 2,yW [111,110],iW 0,iW 79],.ag [iW 2,yW [99,108,111,115,101],iW 0,iW 82],.ag [iW 1,yW [115],iW 0,iW 88],.ag [iW 5,yW [123],iW 0,iW 90],.ag [iW 2,yW [115,99,111,114,101],iW 0,iW 92],.ag [iW 3,yW [],iW 2,iW 98],.ag [iW 5,yW [59],iW 0,iW 99],.ag [iW 5,yW [125],iW 0,iW 101],.ag [iW 2,yW [111,110],iW 0,iW 103],.ag [iW 2,yW [115,116,97,114,116],iW 0,iW 106],.ag [iW 5,yW [123],iW 0,iW 112],.ag [iW 2,yW [108,105,103,104,116],iW 0,iW 114],.ag [iW 1,yW [108],iW 0,iW 120],.ag [iW 3,yW [],iW 3,iW 122],.ag [iW 5,yW [59],iW 0,iW 123],.ag [iW 5,yW [125],iW 0,iW 125],.ag [iW 5,yW [125],iW 0,iW 127]],iW 0,iW 0]
def Bib:List AV:=[txa]
def Bic:AV:=.tu [rua,iW 0,iW 0]
def Bid:List AV:=[txb]
def Bie:AV:=.tu [rub,iW 0,iW 0]
def Bif:List AV:=[rua]
def Big:AV:=.sc (.bool true)
def Bih:List AV:=[rub]
def Bii:AV:=.sc (.bool true)
def Bij:List AV:=[rua]
def Bik:AV:=.tu [.ag [.vw true [],.vw true [],.vw true [],.vw true [],.vw true [],iW 0,iW 0],iW 104,iW 8]
def Bil:List AV:=[rub]
def Bim:AV:=.tu [cob,iW 0,iW 0]
def Bin:List AV:=[txa]
def Bio:AV:=.tu [.ag [.vw true [],.vw true [],.vw true [],.vw true [],.vw true [],iW 0,iW 0],iW 104,iW 8]
def Bip:List AV:=[txb]
def Biq:AV:=.tu [cob,iW 0,iW 0]
def Bir:List AV:=[cob]
def Bis:AV:=iW 0
end Go.Proofs.YtdjpkhjaibdogaaGreat
