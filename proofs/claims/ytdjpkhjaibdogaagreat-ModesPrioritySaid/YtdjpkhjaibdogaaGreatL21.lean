/-
  Lemmas towards ModesPriority (joined texts: SYJ, SYH, SYN).
  Conditions: none.
-/
import Derived.Test.YtdjpkhjaibdogaaGreatL01
import Derived.Test.YtdjpkhjaibdogaaGreatL15
import Derived.Test.YtdjpkhjaibdogaaGreatL20
set_option linter.unusedSimpArgs false
set_option linter.unusedVariables false
set_option maxRecDepth 100000
namespace Go.SX
open Go.RowKit (Below)
inductive Rn (d:Nat) (σ:Nat→Nat) (c2:Nat) (H1:List Blk):AV→AV→Prop
 | nr {a} (h:a.noref=true):Rn d σ c2 H1 a a
 | jk (a):Rn d σ c2 H1 a .jk
 | sl {v2} (j v lo n) (B:Blk) (hB:H1[σ j]?=some B) (hl:B.live=true) (hv:B.ver=v) (hv2:v2 < c2):Rn d σ c2 H1 (.sl (σ j) v lo n) (.sl (d+j) v2 lo n)
 | pt {v2} (j v i off) (B:Blk) (hB:H1[σ j]?=some B) (hl:B.live=true) (hv:B.ver=v) (hv2:v2 < c2):Rn d σ c2 H1 (.pt (σ j) v i off) (.pt (d+j) v2 i off)
 | ag {cs ds} (hl:cs.length=ds.length) (h:∀ (i:Nat) (a b:AV),cs[i]?=some a→ds[i]?=some b→Rn d σ c2 H1 a b):Rn d σ c2 H1 (.ag cs) (.ag ds)
 | tu {cs ds} (hl:cs.length=ds.length) (h:∀ (i:Nat) (a b:AV),cs[i]?=some a→ds[i]?=some b→Rn d σ c2 H1 a b):Rn d σ c2 H1 (.tu cs) (.tu ds)
def RnL (d:Nat) (σ:Nat→Nat) (c2:Nat) (H1:List Blk):List AV→List AV→Prop
 | [],[]=>True
 | a::l,b::m=>Rn d σ c2 H1 a b∧RnL d σ c2 H1 l m
 | _,_=>False
theorem Qg {d:Nat} {σ:Nat→Nat} {c2:Nat} {H1:List Blk}:∀ {l m:List AV},RnL d σ c2 H1 l m→l.length=m.length∧∀ (i:Nat) (a b:AV),l[i]?=some a→m[i]?=some b→Rn d σ c2 H1 a b
 | [],[],_=>⟨rfl,fun i a b h=>by simp at h⟩
 | a::l,b::m,⟨h1,h2⟩=>by
  obtain ⟨e,h⟩:=Qg h2
  refine ⟨by simp [e],fun i x y hx hy=>?_⟩
  cases i with
  | zero=>simp at hx hy; subst hx; subst hy; exact h1
  | succ i=>exact h i x y (by simpa using hx) (by simpa using hy)
 | [],_::_,h=>h.elim
 | _::_,[],h=>h.elim
theorem Bfi {d:Nat} {σ:Nat→Nat} {c2:Nat} {H1:List Blk} {cs ds:List AV} (h:RnL d σ c2 H1 cs ds):Rn d σ c2 H1 (.ag cs) (.ag ds):=.ag (Qg h).1 (Qg h).2
def RnH (d:Nat) (σ:Nat→Nat) (c c2:Nat) (H1 H2:List Blk):Prop:=
 ∀ j B2,H2[j]?=some B2→B2.live=true→∃ B1,H1[σ j]?=some B1∧B1.live=true∧c≤B2.ver∧B2.ver < c2∧B1.ty=B2.ty∧B1.esz=B2.esz∧B1.els.length=B2.els.length∧
  ∀ (i:Nat) (e f:AV),B1.els[i]?=some e→B2.els[i]?=some f→f≠.jk∧Rn d σ c2 H1 e f
theorem Anc {d:Nat} {σ:Nat→Nat} {c2:Nat} {H1:List Blk} {x y:AV} (h:Rn d σ c2 H1 x y) (hj:y≠.jk):x.cells.length=y.cells.length∧∀ (i:Nat) (a b:AV),x.cells[i]?=some a→y.cells[i]?=some b→Rn d σ c2 H1 a b:=by
 have one:∀ {a b:AV},Rn d σ c2 H1 a b→a.cells=[a]→b.cells=[b]→a.cells.length=b.cells.length∧∀ (i:Nat) (p q:AV),a.cells[i]?=some p→b.cells[i]?=some q→Rn d σ c2 H1 p q:=by
  intro a b h h1 h2
  rw [h1,h2]
  refine ⟨rfl,fun i p q hp hq=>?_⟩
  cases i with
  | zero=>simp at hp hq; subst hp; subst hq; exact h
  | succ i=>simp at hp
 cases h with
 | nr h=>
  refine ⟨rfl,fun i p q hp hq=>?_⟩
  rw [hp] at hq; cases hq
  refine .nr ?_
  cases x with
  | ag cs=>exact Fi (by simpa [AV.noref,AV.cells] using h) _ (lx25 hp)
  | _=>
   cases i with
   | zero=>simp [AV.cells] at hp; subst hp; exact h
   | succ i=>simp [AV.cells] at hp
 | jk=>exact absurd rfl hj
 | sl j v lo n B hB hl hv hv2=>exact one (.sl j v lo n B hB hl hv hv2) rfl rfl
 | pt j v i off B hB hl hv hv2=>exact one (.pt j v i off B hB hl hv hv2) rfl rfl
 | ag hl h=>exact ⟨hl,h⟩
 | tu hl h=>exact one (.tu hl h) rfl rfl
theorem Bfj {w:World} {X:Nat→Prop} {hc hc2:HC} {d:Nat} {σ:Nat→Nat} {c2:Nat} (hcnt:hc2.cnt=c2) (hloc:∀ j,hc2.loc (d+j)=hc.loc (σ j))
  (hH:∀ j B2,hc2.H[d+j]?=some B2→B2.live=true→∃ B1,hc.H[σ j]?=some B1∧B1.live=true∧B1.ty=B2.ty∧B1.esz=B2.esz∧B1.els.length=B2.els.length)
  {x y:AV} {v:Value} (h:Rn d σ c2 hc.H x y) (hv:VR w X (some hc) x v):VR w X (some hc2) y v:=by
 induction h generalizing v with
 | nr h=>exact F7 _ h hv.close
 | jk a=>exact .jk
 | sl j u lo n B hB hl hu hv2=>
  cases hv with
  | sl h1 h2=>
   refine .sl h1 fun hc1 e=>?_
   cases e
   obtain ⟨g1,g2⟩:=h2 hc rfl
   refine ⟨by rw [hcnt]; exact hv2,fun B2 e1 e2 e3=>?_⟩
   obtain ⟨B1,k1,k2,k3,k4,k5⟩:=hH j B2 e1 e2
   rw [hB] at k1; cases k1
   obtain ⟨q0,q1⟩:=g2 B hB hl hu
   refine ⟨by omega,?_⟩
   rcases q1 with q1 | ⟨b,base,cap,m,n0,n1,n2,n3,n4,n5⟩
   ·exact .inl q1
   ·exact .inr ⟨b,base,cap,m,by rw [hloc]; exact n0,by rw [n1,k4],n2,n3,by rw [←k3]; exact n4,by rw [←k4]; exact n5⟩
 | pt j u i off B hB hl hu hv2=>
  cases hv with
  | pt h1 h2=>
   refine .pt h1 fun hc1 e=>?_
   cases e
   obtain ⟨g1,g2⟩:=h2 hc rfl
   refine ⟨by rw [hcnt]; exact hv2,fun B2 e1 e2 e3=>?_⟩
   obtain ⟨B1,k1,k2,k3,k4,k5⟩:=hH j B2 e1 e2
   rw [hB] at k1; cases k1
   obtain ⟨b,base,q1,q2⟩:=g2 B hB hl hu
   exact ⟨b,base,by rw [hloc]; exact q1,by rw [q2,k4]⟩
 | @ag cs ds hl h ih=>
  cases hv with
  | ag hl' h1 h2=>
   refine .ag (hl.symm.trans hl') (fun i b u hb hu=>?_) h2
   exact Bd7
 | @tu cs ds hl h ih=>
  cases hv with
  | tu hl' h1=>
   refine .tu (hl.symm.trans hl') (fun i b u hb hu=>?_)
   exact Bd7
theorem Bfk {P:Program} {E:Env} {rs:List ResultVar} {R:AV→St→Prop} {k:List Item} {T T':List AV} {H H2:List Blk} {c c2:Nat} (σ:Nat→Nat) (hT:RnL 0 σ c2 H T T') (hH:RnH 0 σ c c2 H H2)
  (hσ:∀ i j Bi Bj,H2[i]?=some Bi→H2[j]?=some Bj→Bi.live=true→Bj.live=true→σ i=σ j→i=j) (hc:c≤c2) (h:Go P E 0 rs R k ⟨T',H2,c2⟩):Go P E 0 rs R k ⟨T,H,c⟩:=
 .ghost (s':=⟨T',H2,c2⟩) (fun w X loc act hs=>by
  obtain ⟨hr,tm,df⟩:=hs
  simp only [St.hc] at hr tm
  have l2:∀ j,(fun j=>loc (σ j)) (0+j)=loc (σ j):=fun j=>by simp
  have hblk:∀ j B2,H2[0+j]?=some B2→B2.live=true→∃ B1,H[σ j]?=some B1∧B1.live=true∧B1.ty=B2.ty∧B1.esz=B2.esz∧B1.els.length=B2.els.length:=by
   intro j B2 e1 e2
   rw [CL] at e1
   obtain ⟨B1,k1,k2,k3,k4,k5,k6,k7,_⟩:=hH j B2 e1 e2
   exact ⟨B1,k1,k2,k5,k6,k7⟩
  have hvr:∀ {x y:AV} {v:Value},Rn 0 σ c2 H x y→VR w X (some ⟨loc,H,c⟩) x v→VR w X (some ⟨fun j=>loc (σ j),H2,c2⟩) y v:=fun hxy hx=>
   Bfj (hc:=⟨loc,H,c⟩) (hc2:=⟨fun j=>loc (σ j),H2,c2⟩) (σ:=σ) rfl l2 hblk hxy hx
  obtain ⟨t1,t2⟩:=Qg hT
  refine ⟨X,fun j=>loc (σ j),⟨⟨?_,?_,hr.lt⟩,⟨t1.symm.trans tm.1,fun i b v hb hv=>?_⟩,df⟩,fun w0 X0 Cc hn he=>?_⟩
  ·intro j B e1 e2
   simp only [St.hc] at e1 ⊢
   obtain ⟨B1,k1,k2,k3,k4,k5,k6,k7,k8⟩:=hH j B e1 e2
   obtain ⟨q1,q2,q3⟩:=hr.blk (σ j) B1 k1 k2
   simp only at q1 q3
   refine ⟨k4,by omega,?_⟩
   split at q3
   ·rw [q3] at k7
    exact lx60 (by simpa using k7.symm)
   ·rename_i b base hlc
    obtain ⟨m1,⟨cs,m2⟩,m3⟩:=q3
    refine ⟨m1,⟨cs,by rw [←k5]; exact m2⟩,fun i f hf'=>?_⟩
    have hi:i < B.els.length:=(lx22.1 hf').1
    have he:=lx50 (l:=B1.els) (i:=i) (by omega)
    obtain ⟨n1,n2⟩:=m3 i _ he
    obtain ⟨hj,hrn⟩:=k8 i _ f he hf'
    obtain ⟨u1,u2⟩:=Anc hrn hj
    refine ⟨by rw [←u1,n1,k6],fun jj a ha'=>?_⟩
    have hjj:jj < f.cells.length:=(lx22.1 ha').1
    have hx:=lx50 (l:=(B1.els[i]'(by omega)).cells) (i:=jj) (by omega)
    obtain ⟨c,p1,p2,p3⟩:=n2 jj _ hx
    exact ⟨c,by rw [←k6]; exact p1,p2,hvr (u2 jj _ a hx ha') p3⟩
  ·intro id id' B B' b o o' e1 e2 e3 e4 e5 e6
   simp only [St.hc] at e1 e2 e5 e6
   obtain ⟨B1,k1,k2,_⟩:=hH id B e1 e3
   obtain ⟨B1',k1',k2',_⟩:=hH id' B' e2 e4
   exact hσ id id' B B' e1 e2 e3 e4 (hr.inj (σ id) (σ id') B1 B1' b o o' k1 k1' k2 k2' e5 e6)
  ·have hi:i < T'.length:=(lx22.1 hb).1
   have hx:=lx50 (l:=T) (i:=i) (by omega)
   exact hvr (t2 i _ b hx hb) (tm.2 i _ v hx hv)
  ·have h0:∀ (i:Nat) (B:Blk),Cc.H[i]?=some B→False:=fun i B hh=>by
    have:=(lx22.1 hh).1
    omega
   have hcn:Cc.cnt≤c:=he.cnt
   refine ⟨he.os,he.tape,he.output,he.size,he.keep,he.shape,he.xs,Qv hcn hc,?_,?_⟩
   ·intro id B' e1 e2 e3
    obtain ⟨B1,k1,k2,k3,k4,_⟩:=hH id B' e1 e2
    omega
   ·intro id B' b o e1 e2 e3 hb0
    simp only [St.hc] at e1 e3
    obtain ⟨B1,k1,k2,_⟩:=hH id B' e1 e2
    obtain ⟨B,o',g1,_⟩:=he.fresh (σ id) B1 b o k1 k2 e3 hb0
    exact (h0 _ _ g1).elim) h
theorem Abg {P:Program} {f:FuncId} {args:List AV} {r r':AV} {H':List Blk} {c':Nat} (hn:r.noref=true) (h:HSpec P f args [] 0 r' H' c') (h0:WkV [] (Am H' r') r) (hfr:r'.freshIn H'=true):C4 P f args r:=by
 refine ⟨h.1,hn,fun w cargs hv=>?_⟩
 refine (h.2 w QQ (fun _=>none) cargs (Kp w) hv).mono ?_
 rintro e w' ⟨X',loc',c,rfl,g1,g2,g3⟩
 have hown:∀ b,Own ⟨loc',H',c'⟩ b→¬ b < w.heap.size:=by
  exact Ayg
 refine ⟨c,rfl,NS (hc:=Cc) h0 (IN g1 hown _ hfr g2),g3.os,g3.tape,g3.output,g3.size,fun k hk=>g3.keep k hk ?_⟩
 exact Ah3
end Go.SX
namespace Go.SX
structure TFn where
 run:{R:Type}→EE→List Item→ES→R→(List Item→ES→R)→R
noncomputable def Zn (P:Program) (x:Item):TFn:=
 match x with
 | .code .skip=>⟨fun _ k σ _ c=>c k σ⟩
 | .code (.seq x y)=>⟨fun _ k σ _ c=>c (.code x::.code y::k) σ⟩
 | .code (.cond b x y)=>⟨fun _ k σ z c=>match KR σ b with
  | .sc (.bool t)=>bB t (c (.code y::k) σ) (c (.code x::k) σ)
  | _=>z⟩
 | .code (.block id a)=>⟨fun _ k σ _ c=>c (.code a::.inBlock id::k) σ⟩
 | .inBlock _=>⟨fun _ k σ _ c=>c k σ⟩
 | .code (.loop a)=>⟨fun _ k σ _ c=>c (.code a::.inLoop a::k) σ⟩
 | .inLoop a=>⟨fun _ k σ _ c=>c (.code a::.inLoop a::k) σ⟩
 | .code (.exit id)=>⟨fun _ k σ z c=>el (exitTo id k) z fun k'=>c k' σ⟩
 | .code (.region id ops dr)=>⟨fun E k σ z c=>(Ai2 P id ops dr).run E σ z fun σ'=>c k σ'⟩
 | _=>⟨fun _ _ _ z _=>z⟩
section
variable {P:Program} {E:EE} {n0:Nat} {rs:List ResultVar} {Q:AV→St→Prop}
end
inductive PI where
 | c (p:List Nat)
 | b (id:Nat)
 | l (p:List Nat)
theorem Na {α R:Type} (x:Option α) (z:R) (c:α→R):el (el x none some) z c=el x z c:=by cases x <;> rfl
theorem Zo (P:Program) (o:Oper) {R:Type} (lt:Bool) (E:EE) (σ:ES) (z:R) (c:ES→R):(Ld P o).run lt E σ z c=el ((Ld P o).run lt E σ none some) z c:=by
 have rest:∀ h:OFn,h=(match isHeapOp o.op with
   | true=>match Cl o.op with
    | true=>(⟨fun lt _ σ z c=>bB lt (hpK P o.op (Gs o.dst) σ z c) (lpK P o.op (Gs o.dst) σ z c)⟩:OFn)
    | false=>⟨fun _ _ σ z c=>hpK P o.op (Gs o.dst) σ z c⟩
   | false=>⟨fun _ _ σ z c=>el ((Ai1 P o.op).run σ) z fun v=>(Gs o.dst).put v σ z c⟩)→h.run lt E σ z c=el (h.run lt E σ none some) z c:=by
  intro h e
  subst e
  cases isHeapOp o.op with
  | true=>
   cases Cl o.op with
   | true=>
    cases lt with
    | true=>simp only [Br,An7,Na]
    | false=>simp only [Bz,V0,Na]
   | false=>simp only [V0,Na]
  | false=>
   simp only
   cases (Ai1 P o.op).run σ with
   | none=>rfl
   | some v=>simp only [DQ,El,Na]
 unfold Ld
 split
 ·rename_i f args ats ho
  show M3 args.toList f (Gs o.dst) E σ z c=el (M3 args.toList f (Gs o.dst) E σ none some) z c
  rw [R9 o.op f args ats ho,R9 o.op f args ats ho,Na]
 ·exact rest _ rfl
theorem N4 (P:Program) (all:Array Oper) (o:Oper) {R:Type} (lt:Bool) (E:EE) (σ:ES) (z:R) (c:ES→R):(Zj P all o).run lt E σ z c=el ((Zj P all o).run lt E σ none some) z c:=by
 unfold Zj
 cases o.guard with
 | none=>exact Zo P o lt E σ z c
 | some jw=>
  obtain ⟨j,want⟩:=jw
  simp only
  cases (all[j]?).bind (·.dst) with
  | none=>simp only [El,Na]
  | some d=>
   simp only
   split
   ·rename_i b hb
    cases b == want with
    | false=>simp only [Bz,El,Na]
    | true=>simp only [Br]; exact Zo P o false E σ z c
   ·simp only [El,Na]
   ·rfl
inductive Ob1 where
 | eq (a b:AV)
 | pr (p:Prop)
def Ob1.ok:Ob1→Prop
 | .eq a b=>a=b
 | .pr p=>p
def DA (l:List Ob1):Prop:=∀ p ∈ l,p.ok
theorem Dt {a b:List Ob1}:DA (a++b)↔DA a∧DA b:=by
 unfold DA
 constructor
 ·exact fun h=>⟨fun p hp=>h p (List.mem_append_left _ hp),fun p hp=>h p (List.mem_append_right _ hp)⟩
 ·rintro ⟨h1,h2⟩ p hp
  rcases lx77.1 hp with hp | hp
  ·exact h1 p hp
  ·exact h2 p hp
structure OB where
 p:Nat→List AV→List Ob1
 v:Nat→List AV→List Ob1
 h:Nat→List AV→Tr Blk→Nat→Nat→List Ob1
structure Agr (ob:OB) (A B:EE):Prop where
 isP:B.isP=A.isP
 isV:B.isV=A.isV
 lit:B.lit=A.lit
 perm:B.perm=A.perm
 hcl:B.hcl=A.hcl
 p:∀ g a,DA (ob.p g a)→B.pc g a=A.pc g a
 v:∀ g a,DA (ob.v g a)→B.vc g a=A.vc g a
 h:∀ g a H n c,DA (ob.h g a H n c)→B.hc g a H n c=A.hc g a H n c
noncomputable def V4 (ob:OB) (args:List Operand) (f:Operand) (E:EE) (σ:ES):List Ob1:=
 match KR σ f with
 | .fn g caps=>bB (E.isP g) (bB (E.isV g) (ob.h g (args.map (KR σ)++caps) σ.H σ.hn σ.cnt) (ob.v g (args.map (KR σ)++caps))) (ob.p g (J4 (gK σ) (args.map (KR σ)++caps)))
 | _=>[]
theorem Ai4 {ob:OB} {A B:EE} (hA:Agr ob A B) {args:List Operand} {f:Operand} {p:PFn} {R:Type} {σ:ES} {z:R} {c:ES→R} (h:DA (V4 ob args f A σ)):M3 args f p B σ z c=M3 args f p A σ z c:=by
 unfold V4 at h
 unfold M3
 rw [hA.isP,hA.isV]
 split at h
 ·rename_i g caps hg
  rw [hg]
  simp only
  cases hp:A.isP g with
  | true=>
   rw [hp,Br] at h
   simp only [Br]
   rw [hA.p _ _ h]
  | false=>
   rw [hp,Bz] at h
   simp only [Bz]
   cases hv:A.isV g with
   | true=>
    rw [hv,Br] at h
    simp only [Br]
    rw [hA.v _ _ h]
   | false=>
    rw [hv,Bz] at h
    simp only [Bz]
    rw [hA.h _ _ _ _ _ h]
 ·rename_i hno
  split
  ·rename_i g caps hg
   exact absurd hg (hno _ _)
  ·rfl
noncomputable def Kb (ob:OB) (E:EE) (o:Oper) (σ:ES):List Ob1:=
 match o.op with
 | .call { callee:=.value f,args,.. }=>V4 ob args.toList f E σ
 | _=>[]
theorem UC {ob:OB} {A B:EE} (hA:Agr ob A B) {P:Program} {o:Oper} {R:Type} {lt:Bool} {σ:ES} {z:R} {c:ES→R} (h:DA (Kb ob A o σ)):(Ld P o).run lt B σ z c=(Ld P o).run lt A σ z c:=by
 unfold Kb at h
 unfold Ld
 split at h
 ·rename_i f args ats ho
  rw [ho]
  exact Ai4 hA h
 ·rename_i hno
  split
  ·rename_i f args ats ho
   exact absurd ho (hno _ _ _)
  ·cases isHeapOp o.op with
   | true=>cases Cl o.op <;> rfl
   | false=>rfl
noncomputable def N5 (ob:OB) (all:Array Oper) (E:EE) (o:Oper) (σ:ES):List Ob1:=
 match o.guard with
 | none=>Kb ob E o σ
 | some (j,want)=>match (all[j]?).bind (·.dst) with
  | some d=>match KR σ (.tmp d) with
   | .sc (.bool b)=>bB (b == want) [] (Kb ob E o σ)
   | _=>[]
  | none=>[]
theorem Afj {ob:OB} {A B:EE} (hA:Agr ob A B) {P:Program} {all:Array Oper} {o:Oper} {R:Type} {lt:Bool} {σ:ES} {z:R} {c:ES→R} (h:DA (N5 ob all A o σ)):(Zj P all o).run lt B σ z c=(Zj P all o).run lt A σ z c:=by
 unfold N5 at h
 unfold Zj
 cases hg:o.guard with
 | none=>
  rw [hg] at h
  exact UC hA h
 | some jw=>
  obtain ⟨j,want⟩:=jw
  rw [hg] at h
  simp only at h ⊢
  cases hd:(all[j]?).bind (·.dst) with
  | none=>rfl
  | some d=>
   rw [hd] at h
   simp only at h ⊢
   split
   ·rename_i b hb
    rw [hb] at h
    simp only at h
    cases hw:b == want with
    | false=>rfl
    | true=>
     rw [hw,Br] at h
     simp only [Br]
     exact UC hA h
   ·rfl
   ·rfl
noncomputable def UD (ob:OB) (P:Program) (all:Array Oper) (lt:Bool) (E:EE) (l:List Oper):ES→List Ob1:=
 match l with
 | []=>fun _=>[]
 | o::r=>fun σ=>N5 ob all E o σ++(Zj P all o).run lt E σ [] (UD ob P all lt E r)
theorem Zp {ob:OB} {A B:EE} (hA:Agr ob A B) {P:Program} {all:Array Oper} {lt:Bool}:∀ {l:List Oper} {R:Type} {σ:ES} {z:R} {c:ES→R},DA (UD ob P all lt A l σ)→(M5 P all l).run lt B σ z c=(M5 P all l).run lt A σ z c
 | [],R,σ,z,c,h=>rfl
 | o::r,R,σ,z,c,h=>by
  have h:DA (N5 ob all A o σ++(Zj P all o).run lt A σ [] (UD ob P all lt A r)):=h
  obtain ⟨h1,h2⟩:=Dt.1 h
  simp only [M5]
  rw [Afj hA h1,N4,N4 (c:=fun σ'=>(M5 P all r).run lt A σ' z c)]
  rw [N4] at h2
  cases hx:(Zj P all o).run lt A σ (none:Option ES) some with
  | none=>rfl
  | some σ'=>
   rw [hx] at h2
   exact Zp hA h2
theorem Afk (P:Program) (all:Array Oper):∀ (l:List Oper) {R:Type} (lt:Bool) (E:EE) (σ:ES) (z:R) (c:ES→R),(M5 P all l).run lt E σ z c=el ((M5 P all l).run lt E σ none some) z c
 | [],R,lt,E,σ,z,c=>rfl
 | o::r,R,lt,E,σ,z,c=>by
  simp only [M5]
  rw [N4,N4 (c:=fun σ'=>(M5 P all r).run lt E σ' none some)]
  cases (Zj P all o).run lt E σ (none:Option ES) some with
  | none=>rfl
  | some σ'=>exact Afk P all r lt E σ' z c
theorem Agr.hb {ob:OB} {A B:EE} (h:Agr ob A B):B.hb=A.hb:=by funext g; unfold EE.hb; rw [h.isP,h.hcl]
theorem Agr.vb {ob:OB} {A B:EE} (h:Agr ob A B):B.vb=A.vb:=by funext g; unfold EE.vb; rw [h.isP,h.isV]
theorem Ba0 {ob:OB} {A B:EE} (hA:Agr ob A B) {P:Program} {all:Array Oper} {o:Oper} {lt:Bool} {σ:ES} (h:DA (N5 ob all A o σ)):opE P B all σ o lt=opE P A all σ o lt:=by
 have core:∀ lt,DA (Kb ob A o σ)→J5 P B σ o lt=J5 P A σ o lt:=by
  intro lt h
  unfold J5
  cases hc:Bk o.op with
  | false=>rfl
  | true=>
   simp only
   unfold Bk at hc
   split at hc
   ·rename_i f args ats ho
    unfold Kb at h
    rw [ho] at h
    simp only at h
    unfold V4 at h
    rw [D4,Zg] at h
    rw [ho]
    simp only [I3]
    split at h
    ·rename_i g caps hg
     rw [hg]
     simp only
     unfold Za
     rw [hA.isP,hA.isV]
     cases hp:A.isP g with
     | true=>
      rw [hp,Br] at h
      simp only
      rw [hA.p _ _ h]
     | false=>
      rw [hp,Bz] at h
      simp only
      cases hv:A.isV g with
      | true=>
       rw [hv,Br] at h
       simp only
       rw [hA.v _ _ h]
      | false=>
       rw [hv,Bz] at h
       simp only
       rw [hA.h _ _ _ _ _ h]
    ·rename_i hno
     split
     ·rename_i g as hg
      exfalso
      split at hg
      ·rename_i g' caps he
       exact hno _ _ he
      ·cases hg
     ·rfl
   ·cases hc
 unfold opE
 unfold N5 at h
 cases hg:o.guard with
 | none=>rw [hg] at h; exact core _ h
 | some jw=>
  obtain ⟨j,want⟩:=jw
  rw [hg] at h
  simp only at h ⊢
  unfold gvE
  cases hd:(all[j]?).bind (·.dst) with
  | none=>rfl
  | some d=>
   rw [hd] at h
   simp only [D4] at h ⊢
   split
   ·rename_i b hb
    rw [hb] at h
    simp only at h
    cases hw:b == want with
    | false=>rfl
    | true=>rw [hw,Br] at h; exact core _ h
   ·rfl
   ·rfl
def vlR:Value→Bool
 | .bool _ | .int _ _ | .string _ | .slice none 0 0=>true
 | _=>false
mutual
def avR:AV→Bool
 | .sc a=>vlR a
 | .ag a | .tu a | .vw _ a | .vp a _ _ | .fn _ a=>As0 a
 | .pt .. | .sl .. | .un | .jk=>true
def As0:List AV→Bool
 | []=>true
 | a::r=>avR a && As0 r
end
theorem Ane {v:Value} (h:vlR v=true):vlE v v=true:=by
 unfold vlR at h
 split at h <;> first | (simp [vlE]; done) | cases h
mutual
theorem Zq:∀ a:AV,avR a=true→NA a a=true
 | .sc a,h=>by simp only [avR] at h; simp only [NA]; exact Ane h
 | .ag a,h=>by simp only [avR] at h; simp only [NA]; exact G0 a h
 | .tu a,h=>by simp only [avR] at h; simp only [NA]; exact G0 a h
 | .pt ..,_=>by simp [NA]
 | .sl ..,_=>by simp [NA]
 | .vw z a,h=>by simp only [avR] at h; simp [NA,G0 a h]
 | .vp a i o,h=>by simp only [avR] at h; simp [NA,G0 a h]
 | .fn f a,h=>by simp only [avR] at h; simp [NA,G0 a h]
 | .un,_=>rfl
 | .jk,_=>rfl
theorem G0:∀ l:List AV,As0 l=true→NV l l=true
 | [],_=>rfl
 | a::r,h=>by
  simp only [As0,AH] at h
  simp only [NV,Zq a h.1,G0 r h.2,Bool.and_self]
end
noncomputable def V5 (P:Program) (E:EE) (all:Array Oper) (o:Oper) (T:Tr AV) (n:Nat) (T':Tr AV) (H:Tr Blk) (hn c:Nat):List Ob1:=
 bB (I4 E.isP (LY ⟨T,n,H,hn,c⟩) o.op) [.pr False] (el (opE P E all ⟨T,n,H,hn,c⟩ o false) [.pr False] fun σ1=>match o.dst with
  | some d=>bB (Nat.blt d n && avR (T'.get .un d)) [.pr False] [.eq (σ1.T.get .un d) (T'.get .un d)]
  | none=>[])
theorem Zr {ob:OB} {A B:EE} (hA:Agr ob A B) {P:Program} {all:Array Oper} {o:Oper} {T T':Tr AV} {n:Nat} {H:Tr Blk} {hn c:Nat} (h:DA (N5 ob all A o ⟨T,n,H,hn,c⟩)) (hs:DA (V5 P A all o T n T' H hn c)):
  sameE P B all o T n T' H hn c=true:=by
 have no:¬ DA [Ob1.pr False]:=fun h=>h (.pr False) (by simp)
 unfold sameE
 unfold V5 at hs
 rw [hA.isP,Ba0 hA h]
 cases hp:I4 A.isP (LY ⟨T,n,H,hn,c⟩) o.op with
 | false=>rw [hp,Bz] at hs; exact absurd hs no
 | true=>
  rw [hp,Br] at hs
  simp only
  cases hq:opE P A all ⟨T,n,H,hn,c⟩ o false with
  | none=>rw [hq,Ars] at hs; exact absurd hs no
  | some σ1=>
   rw [hq,DQ] at hs
   cases hd:o.dst with
   | none=>rfl
   | some d=>
    rw [hd] at hs
    simp only at hs ⊢
    cases hb:Nat.blt d n && avR (T'.get .un d) with
    | false=>rw [hb,Bz] at hs; exact absurd hs no
    | true=>
     rw [hb,Br] at hs
     simp only [AH] at hb
     have:σ1.T.get .un d=T'.get .un d:=hs (.eq _ _) (lx70.2 rfl)
     rw [hb.1]
     simp only
     rw [this]
     exact Zq _ hb.2
theorem V6 {ob:OB} {A B:EE} (hA:Agr ob A B) (φ:Operand→AV) (o:Op):isVE B φ o=isVE A φ o:=by unfold isVE; rw [hA.vb]
noncomputable def Abh (ob:OB) (P:Program) (A:EE) (ops:Array Oper) (i:Nat) (o:Oper) (T:Tr AV) (n:Nat) (T':Tr AV):List PastE→List Ob1
 | []=>[]
 | h::r=>bB (gB A.hb ops h.at_ i || isVE A (LY ⟨T,n,.nil,0,0⟩) o.op) (N5 ob ops A o ⟨T,n,h.σ.H,h.σ.hn,h.σ.cnt⟩++V5 P A ops o T n T' h.σ.H h.σ.hn h.σ.cnt) []++Abh ob P A ops i o T n T' r
noncomputable def Abi (ob:OB) (P:Program) (A:EE) (ops:Array Oper) (k:Nat) (H:Tr Blk) (hn c:Nat):List DidE→List Ob1
 | []=>[]
 | d::r=>bB (gB A.hb ops d.at_ k || isVE A (LY ⟨d.σ.T,d.σ.n,.nil,0,0⟩) d.o.op) (N5 ob ops A d.o ⟨d.σ.T,d.σ.n,H,hn,c⟩++V5 P A ops d.o d.σ.T d.σ.n d.T' H hn c) []++Abi ob P A ops k H hn c r
theorem Zs {ob:OB} {A B:EE} (hA:Agr ob A B) {P:Program} {ops:Array Oper} {i:Nat} {o:Oper} {T T':Tr AV} {n:Nat}:∀ {hs:List PastE},DA (Abh ob P A ops i o T n T' hs)→Uw P B ops i o T n T' hs=true
 | [],_=>rfl
 | h::r,hc=>by
  obtain ⟨h1,h2⟩:=Dt.1 hc
  simp only [Uw]
  rw [Zs hA h2,hA.hb,V6 hA]
  cases hg:gB A.hb ops h.at_ i with
  | true=>simp only [Bool.true_or,Bool.and_self]
  | false=>
   cases hv:isVE A (LY ⟨T,n,.nil,0,0⟩) o.op with
   | true=>simp only [Bool.true_or,Bool.or_true,Bool.and_self]
   | false=>
    rw [hg,hv] at h1
    obtain ⟨k1,k2⟩:=Dt.1 h1
    rw [Zr hA k1 k2]
    rfl
theorem Zt {ob:OB} {A B:EE} (hA:Agr ob A B) {P:Program} {ops:Array Oper} {k:Nat} {H:Tr Blk} {hn c:Nat}:∀ {ds:List DidE},DA (Abi ob P A ops k H hn c ds)→Ux P B ops k H hn c ds=true
 | [],_=>rfl
 | d::r,hc=>by
  obtain ⟨h1,h2⟩:=Dt.1 hc
  simp only [Ux]
  rw [Zt hA h2,hA.hb,V6 hA]
  cases hg:gB A.hb ops d.at_ k with
  | true=>simp only [Bool.true_or,Bool.and_self]
  | false=>
   cases hv:isVE A (LY ⟨d.σ.T,d.σ.n,.nil,0,0⟩) d.o.op with
   | true=>simp only [Bool.true_or,Bool.or_true,Bool.and_self]
   | false=>
    rw [hg,hv] at h1
    obtain ⟨k1,k2⟩:=Dt.1 h1
    rw [Zr hA k1 k2]
    rfl
noncomputable def LH (P:Program) (E:EE) (ops:Array Oper):List Oper→Nat→ES→Nat→Option ES
 | [],_,σ,_=>some σ
 | o::r,i,σ,u=>el (opX P E ops σ o) none fun σ'=>
  bB (BY E.hb o.op)
   (bB (AE o.op)
    (bB (I4 E.isP (KR σ) o.op || isVE E (KR σ) o.op) none (LH P E ops r (i+1) σ' u))
    (LH P E ops r (i+1) σ' u))
   (bB (Amz E.hb ops i σ' o.op && Nat.blt 0 σ'.hn) none (LH P E ops r (i+1) σ' u))
noncomputable def KB (ob:OB) (P:Program) (A:EE) (ops:Array Oper):List Oper→Nat→ES→List PastE→List DidE→List Ob1
 | [],_,_,_,_=>[]
 | o::r,i,σ,hs,ds=>N5 ob ops A o σ++el (opX P A ops σ o) [] fun σ'=>
  bB (BY A.hb o.op)
   (bB (AE o.op) (Abh ob P A ops i o σ.T σ.n σ'.T hs++KB ob P A ops r (i+1) σ' hs (⟨i,o,σ,σ'.T⟩::ds)) (KB ob P A ops r (i+1) σ' hs ds))
   (Abi ob P A ops i σ'.H σ'.hn σ'.cnt ds++KB ob P A ops r (i+1) σ' (⟨i,σ⟩::hs) ds)
theorem Iu {ob:OB} {A B:EE} (hA:Agr ob A B) {P:Program} {ops:Array Oper}:∀ {l:List Oper} {i:Nat} {σ:ES} {hs:List PastE} {ds:List DidE},DA (KB ob P A ops l i σ hs ds)→HW P B ops l i σ hs ds=LH P A ops l i σ 0
 | [],i,σ,hs,ds,h=>rfl
 | o::r,i,σ,hs,ds,h=>by
  obtain ⟨h1,h2⟩:=Dt.1 h
  simp only [HW,LH]
  have hx:opX P B ops σ o=opX P A ops σ o:=Afj hA h1
  rw [hx]
  cases hq:opX P A ops σ o with
  | none=>rfl
  | some σ'=>
   rw [hq,DQ] at h2
   simp only [DQ]
   rw [hA.hb,hA.isP,V6 hA]
   cases hh:BY A.hb o.op with
   | true=>
    rw [hh,Br] at h2
    simp only [Br]
    rw [Zt hA (Dt.1 h2).1,Iu hA (Dt.1 h2).2,KP]
   | false=>
    rw [hh,Bz] at h2
    simp only [Bz]
    cases hn:AE o.op with
    | true=>
     rw [hn,Br] at h2
     simp only [Br]
     rw [Iu hA h2]
    | false=>
     rw [hn,Bz] at h2
     simp only [Bz]
     rw [Zs hA (Dt.1 h2).1,Iu hA (Dt.1 h2).2,Bool.and_true]
theorem Ai5 {ob:OB} {A:EE} {o:Oper} {σ:ES} (h:Bk o.op=false):Kb ob A o σ=[]:=by
 unfold Kb
 split
 ·rename_i f args ats ho
  rw [ho] at h
  cases h
 ·rfl
theorem As1 {ob:OB} {all:Array Oper} {A:EE} {o:Oper} {σ:ES} (h:Bk o.op=false):N5 ob all A o σ=[]:=by
 unfold N5
 rw [Ai5 h]
 split
 ·rfl
 ·split
  ·split
   ·rename_i b _
    cases b == _ <;> rfl
   ·rfl
  ·rfl
theorem Zu {ob:OB} {P:Program} {all:Array Oper} {lt:Bool} {A:EE}:∀ {l:List Oper} {σ:ES},l.any (fun o=>Bk o.op)=false→DA (UD ob P all lt A l σ)
 | [],σ,_=>fun p hp=>by cases hp
 | o::r,σ,h=>by
  simp only [List.any_cons,Ju] at h
  show DA (N5 ob all A o σ++(Zj P all o).run lt A σ [] (UD ob P all lt A r))
  rw [As1 h.1,lx64,N4]
  cases hx:(Zj P all o).run lt A σ (none:Option ES) some with
  | none=>exact fun p hp=>by cases hp
  | some σ'=>exact Zu h.2
noncomputable def Anf (ob:OB) (P:Program) (A:EE) (id:Nat) (ops:Array Oper) (dr:Bool) (σ:ES):List Ob1:=
 match dr with
 | false=>bB (ops.toList.any fun o=>Bk o.op) [] (UD ob P ops A.lit A ops.toList σ)
 | true=>match A.perm id with
  | none=>KB ob P A ops ops.toList 0 σ [] []
  | some []=>[]
  | some (i::π)=>KB ob P A (BW ops (i::π)) (BW ops (i::π)).toList 0 σ [] []
noncomputable def Abj (P:Program) (id:Nat) (ops:Array Oper) (dr:Bool):GFn:=
 match dr with
 | false=>⟨fun E σ z c=>(M5 P ops ops.toList).run E.lit E σ z c⟩
 | true=>⟨fun E σ z c=>el (match E.perm id with
  | none=>LH P E ops ops.toList 0 σ 0
  | some []=>none
  | some (i::π)=>LH P E (BW ops (i::π)) (BW ops (i::π)).toList 0 σ 0) z c⟩
theorem As2 {ob:OB} {A B:EE} (hA:Agr ob A B) {P:Program} {id:Nat} {ops:Array Oper} {dr:Bool} {σ:ES} {R:Type} {z:R} {c:ES→R} (h:DA (Anf ob P A id ops dr σ)):(Ai2 P id ops dr).run B σ z c=(Abj P id ops dr).run A σ z c:=by
 unfold Anf at h
 unfold Ai2 Abj
 cases dr with
 | false=>
  simp only
  rw [hA.lit]
  refine Zp hA ?_
  simp only at h
  cases hc:ops.toList.any fun o=>Bk o.op with
  | false=>exact Zu hc
  | true=>rw [hc,Br] at h; exact h
 | true=>
  simp only at h ⊢
  rw [hA.perm]
  cases hp:A.perm id with
  | none=>rw [hp] at h; simp only at h ⊢; rw [Iu hA h]
  | some π=>
   cases π with
   | nil=>rfl
   | cons i π=>rw [hp] at h; simp only at h ⊢; rw [Iu hA h]
theorem Afl (P:Program) (id:Nat) (ops:Array Oper) (dr:Bool) {R:Type} (E:EE) (σ:ES) (z:R) (c:ES→R):(Abj P id ops dr).run E σ z c=el ((Abj P id ops dr).run E σ none some) z c:=by
 unfold Abj
 cases dr with
 | false=>exact Afk P ops ops.toList E.lit E σ z c
 | true=>simp only [Na]
noncomputable def Le (P:Program) (x:Item):TFn:=
 match x with
 | .code (.region id ops dr)=>⟨fun E k σ z c=>(Abj P id ops dr).run E σ z fun σ'=>c k σ'⟩
 | x=>Zn P x
noncomputable def V7 (ob:OB) (P:Program) (A:EE) (x:Item) (σ:ES):List Ob1:=
 match x with
 | .code (.region id ops dr)=>Anf ob P A id ops dr σ
 | _=>[]
theorem Ang {ob:OB} {A B:EE} (hA:Agr ob A B) {P:Program} {x:Item} {k:List Item} {σ:ES} {R:Type} {z:R} {c:List Item→ES→R} (h:DA (V7 ob P A x σ)):(Zn P x).run B k σ z c=(Le P x).run A k σ z c:=by
 unfold V7 at h
 unfold Le
 split at h
 ·exact As2 hA h
 ·rename_i hno
  cases x with
  | code c0=>cases c0 <;> first | rfl | exact absurd rfl (hno _ _ _)
  | _=>rfl
theorem As3 (P:Program) (x:Item) (E:EE) (k:List Item) (σ:ES) (c:List Item→ES→Option (AV × ES)):(Zk P x).run E k σ c=(Zn P x).run E k σ none c:=by
 cases x with
 | code c0=>cases c0 <;> rfl
 | _=>rfl
theorem Sb (P:Program) (x:Item) {R:Type} (E:EE) (k:List Item) (σ:ES) (z:R) (c:List Item→ES→R):
  (Le P x).run E k σ z c=el ((Le P x).run E k σ none fun k σ=>some (k,σ)) z fun q=>c q.1 q.2:=by
 unfold Le
 split
 ·simp only
  rw [Afl,Afl (c:=fun σ'=>some (k,σ'))]
  cases (Abj P _ _ _).run E σ (none:Option ES) some <;> rfl
 ·rename_i hno
  cases x with
  | code c0=>
   cases c0 with
   | region id ops dr=>exact absurd rfl (hno id ops dr)
   | cond b a1 a2=>
    simp only [Zn]
    split
    ·rename_i t ht
     cases t <;> rfl
    ·rfl
   | exit id=>
    simp only [Zn]
    cases exitTo id k <;> rfl
   | _=>rfl
  | _=>rfl
noncomputable def As4 (P:Program) (E:EE) (rs:List ResultVar) (n:Nat):List Item→ES→Option (AV × ES):=
 Nat.rec (motive:=fun _=>List Item→ES→Option (AV × ES)) (fun _ _=>none)
  (fun _ ih k σ=>List.rec (motive:=fun _=>Option (AV × ES)) (finK P rs σ) (fun x k' _=>bB (MX x) ((Le P x).run E k' σ none ih) (finK P rs σ)) k) n
noncomputable def Anh (ob:OB) (P:Program) (A:EE) (n:Nat):List Item→ES→List Ob1:=
 Nat.rec (motive:=fun _=>List Item→ES→List Ob1) (fun _ _=>[])
  (fun _ ih k σ=>List.rec (motive:=fun _=>List Ob1) [] (fun x k' _=>bB (MX x) (V7 ob P A x σ++(Le P x).run A k' σ [] ih) []) k) n
theorem Afm {ob:OB} {A B:EE} (hA:Agr ob A B) {P:Program} {rs:List ResultVar}:∀ {n:Nat} {k:List Item} {σ:ES},DA (Anh ob P A n k σ)→Ai3 P B rs n k σ=As4 P A rs n k σ
 | 0,k,σ,h=>rfl
 | n+1,[],σ,h=>rfl
 | n+1,x::k,σ,h=>by
  have h:DA (bB (MX x) (V7 ob P A x σ++(Le P x).run A k σ [] (Anh ob P A n)) []):=h
  show bB (MX x) ((Zk P x).run B k σ (Ai3 P B rs n)) (finK P rs σ)=bB (MX x) ((Le P x).run A k σ none (As4 P A rs n)) (finK P rs σ)
  cases hx:MX x with
  | true=>rfl
  | false=>
   rw [hx,Bz] at h
   simp only [Bz]
   rw [As3,Ang hA (Dt.1 h).1,Sb,Sb (c:=As4 P A rs n)]
   have h2:=(Dt.1 h).2
   rw [Sb] at h2
   cases hq:(Le P x).run A k σ (none:Option (List Item × ES)) fun k σ=>some (k,σ) with
   | none=>rfl
   | some q=>
    rw [hq] at h2
    exact Afm hA h2
noncomputable def Zv (P:Program) (t:TabE) (E:EE) (f:Nat) (args:List AV) (H:Tr Blk) (hn cnt:Nat):Option (AV × ES):=
 match t.ok f with
 | true=>match P.funcs[f]? with
  | some fn=>match fn.body with
   | some c=>match Nat.ble args.length fn.ntmps with
    | true=>match Tr.setAll (Tr.rep .un 12 fn.ntmps) 0 args with
     | some T=>As4 P E fn.results.toList Amk [.code c] ⟨T,fn.ntmps,H,hn,cnt⟩
     | none=>none
    | false=>none
   | none=>none
  | none=>none
 | false=>none
noncomputable def Nb (ob:OB) (P:Program) (t:TabE) (A:EE) (f:Nat) (args:List AV) (H:Tr Blk) (hn cnt:Nat):List Ob1:=
 match t.ok f with
 | true=>match P.funcs[f]? with
  | some fn=>match fn.body with
   | some c=>match Nat.ble args.length fn.ntmps with
    | true=>match Tr.setAll (Tr.rep .un 12 fn.ntmps) 0 args with
     | some T=>Anh ob P A Amk [.code c] ⟨T,fn.ntmps,H,hn,cnt⟩
     | none=>[]
    | false=>[]
   | none=>[]
  | none=>[]
 | false=>[]
theorem Sc {ob:OB} {A B:EE} (hA:Agr ob A B) {P:Program} {t:TabE} {f:Nat} {args:List AV} {H:Tr Blk} {hn cnt:Nat} (h:DA (Nb ob P t A f args H hn cnt)):J9 P t B f args H hn cnt=Zv P t A f args H hn cnt:=by
 unfold Nb at h
 unfold J9 Zv
 cases h1:t.ok f with
 | false=>rfl
 | true=>
  rw [h1] at h
  simp only at h ⊢
  cases h2:P.funcs[f]? with
  | none=>rfl
  | some fn=>
   rw [h2] at h
   simp only at h ⊢
   cases h3:fn.body with
   | none=>rfl
   | some c=>
    rw [h3] at h
    simp only at h ⊢
    cases h4:Nat.ble args.length fn.ntmps with
    | false=>rfl
    | true=>
     rw [h4] at h
     simp only at h ⊢
     cases h5:Tr.setAll (Tr.rep AV.un 12 fn.ntmps) 0 args with
     | none=>rfl
     | some T=>
      rw [h5] at h
      exact Afm hA h
end Go.SX
