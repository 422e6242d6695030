/-
  Lemmas towards ModesSteps (joined texts: SYD, SYE).
  Conditions: none.
-/
import Derived.Test.YtdjpkhjaibdogaaGreatL01
import Derived.Test.YtdjpkhjaibdogaaGreatL19
set_option linter.unusedSimpArgs false
set_option linter.unusedVariables false
set_option maxRecDepth 100000
namespace Go.SX
structure PastE where
 at_:Nat
 σ:ES
structure DidE where
 at_:Nat
 o:Oper
 σ:ES
 T':Tr AV
def PastE.toP (p:PastE):Past:=⟨p.at_,p.σ.toS.H,p.σ.cnt⟩
def DidE.toD (d:DidE):Did:=⟨d.at_,d.o,d.σ.toS.T,d.T'.toL .un d.σ.n⟩
def Pu (isP:Nat→Bool) (φ:Operand→AV) (o:Op):Bool:=
 match Cw o with
 | true=>match K2 φ o with
  | some (g,_)=>isP g
  | none=>true
 | false=>!isHeapOp o
theorem Ra (E:EE) (s:St) (o:Op):Pu E.isP (ev s.T) o=Bf E.env s o:=by
 unfold Pu Bf
 rw [Mc]
 cases Cw o <;> rfl
def isVE (E:EE) (φ:Operand→AV) (o:Op):Bool:=
 Cw o && match K2 φ o with
 | some (g,_)=>E.vb g
 | none=>false
theorem Ux (E:EE) (s:St) (o:Op):isVE E (ev s.T) o=isVop E.vb s o:=by
 unfold isVE isVop
 rw [Mc]
 rfl
noncomputable def sameE (P:Program) (E:EE) (all:Array Oper) (o:Oper) (T:Tr AV) (n:Nat) (T':Tr AV) (H:Tr Blk) (hn c:Nat):Bool:=
 match Pu E.isP (Ps ⟨T,n,H,hn,c⟩) o.op with
 | true=>match opE P E all ⟨T,n,H,hn,c⟩ o false,o.dst with
  | some σ1,some d=>match Nat.blt d n with
   | true=>U3 (σ1.T.get .un d) (T'.get .un d)
   | false=>false
  | some _,none=>true
  | none,_=>false
 | false=>false
theorem Xz {P:Program} {E:EE} (hE:E.Ok) {all:Array Oper} {o:Oper} {T T':Tr AV} {n:Nat} {H:Tr Blk} {hn c:Nat} (hf:Tr.Fit H hn) (h:sameE P E all o T n T' H hn c=true):
  sameB P E.env all o (T.toL .un n) (T'.toL .un n) (H.toL dead hn) c=true:=by
 unfold sameE at h
 unfold sameB
 split at h
 ·rename_i hp
  rw [DK,Ra] at hp
  have hp:Bf E.env ⟨T.toL .un n,H.toL dead hn,c⟩ o.op=true:=hp
  rw [hp,GX]
  split at h
  ·rename_i σ1 d h1 hd
   obtain ⟨q1,q2,q3⟩:=Ajr hE (σ:=⟨T,n,H,hn,c⟩) hf h1
   have q2:Ai P E.env all ⟨T.toL .un n,H.toL dead hn,c⟩ o=some σ1.toS:=q2
   have q3:σ1.n=n:=q3
   rw [q2,hd]
   simp only
   split at h
   ·rename_i hb
    rw [blt_eq] at hb
    have hb:d < n:=by simpa using hb
    have e1:σ1.toS.T.getD d .un=σ1.T.get .un d:=by
     simp only [ES.toS,q3,lx80,Tr.toL_get,if_pos hb,lx10]
    have e2:(T'.toL .un n).getD d .un=T'.get .un d:=by
     simp only [lx80,Tr.toL_get,if_pos hb,lx10]
    rw [e1,e2]
    exact h
   ·cases h
  ·rename_i σ1 h1 hd
   obtain ⟨q1,q2,q3⟩:=Ajr hE (σ:=⟨T,n,H,hn,c⟩) hf h1
   have q2:Ai P E.env all ⟨T.toL .un n,H.toL dead hn,c⟩ o=some σ1.toS:=q2
   rw [q2,hd]
  ·cases h
 ·cases h
noncomputable def Aci (P:Program) (E:EE) (ops:Array Oper) (i:Nat) (o:Oper) (T:Tr AV) (n:Nat) (T':Tr AV):List PastE→Bool
 | []=>true
 | h::r=>(gB E.hb ops h.at_ i || (isVE E (Ps ⟨T,n,.nil,0,0⟩) o.op || sameE P E ops o T n T' h.σ.H h.σ.hn h.σ.cnt)) && Aci P E ops i o T n T' r
noncomputable def Acj (P:Program) (E:EE) (ops:Array Oper) (k:Nat) (H:Tr Blk) (hn c:Nat):List DidE→Bool
 | []=>true
 | d::r=>(gB E.hb ops d.at_ k || (isVE E (Ps ⟨d.σ.T,d.σ.n,.nil,0,0⟩) d.o.op || sameE P E ops d.o d.σ.T d.σ.n d.T' H hn c)) && Acj P E ops k H hn c r
noncomputable def Asx (κ:Nat→Bool) (ops:Array Oper) (i:Nat) (σ:ES):Op→Bool
 | .buildSlice ..=>gB κ ops i i || norefs (σ.H.get dead (σ.hn - 1)).els
 | _=>true
theorem XA {P:Program} {E:EE} (hE:E.Ok) {ops:Array Oper} {i:Nat} {o:Oper} {T T':Tr AV} {n:Nat}:∀ {hs:List PastE},(∀ h ∈ hs,h.σ.Inv)→Aci P E ops i o T n T' hs=true→
  Q3 P E.env E.vb ops i o (T.toL .un n) (T'.toL .un n) (hs.map PastE.toP)=true
 | [],_,_=>rfl
 | h::r,hi,hb=>by
  simp only [Aci,AX,IW] at hb
  simp only [lx32,Q3,AX,IW]
  refine ⟨hb.1.imp id fun q=>q.imp (fun q=>?_) fun q=>?_,XA hE (fun x hx=>hi x (lx49 _ hx)) hb.2⟩
  ·rw [DK,Ux] at q
   exact q
  ·exact Xz hE (hi h lx48) q
theorem XB {P:Program} {E:EE} (hE:E.Ok) {ops:Array Oper} {k:Nat} {σ:ES} (hi:σ.Inv):∀ {ds:List DidE},Acj P E ops k σ.H σ.hn σ.cnt ds=true→
  Q4 P E.env E.vb ops k σ.toS.H σ.toS.cnt (ds.map DidE.toD)=true
 | [],_=>rfl
 | d::r,hb=>by
  simp only [Acj,AX,IW] at hb
  simp only [lx32,Q4,AX,IW]
  refine ⟨hb.1.imp id fun q=>q.imp (fun q=>?_) fun q=>?_,XB hE hi hb.2⟩
  ·rw [DK,Ux] at q
   exact q
  ·exact Xz hE hi q
theorem XC (H:Tr Blk):∀ {n:Nat},0 < n→Dn (H.toL dead n)=(H.get dead (n - 1)).els
 | n+1,_=>by
  have:H.toL dead (n+1)=H.toL dead n++[H.get dead n]:=by
   simp only [Tr.toL,List.range_succ,lx12,lx32,lx47]
  rw [this,DG]
  rfl
noncomputable def Aes (P:Program) (σ:ES):List ResultVar→Option (List AV)
 | []=>some []
 | .tmp t::r=>match Aes P σ r with
  | some l=>some (Ps σ (.tmp t)::l)
  | none=>none
 | .cell t ty::r=>match Ac6 P (Ps σ) (JZ (gE σ)) (.load ty (.tmp t)) with
  | some v=>match Aes P σ r with
   | some l=>some (v::l)
   | none=>none
  | none=>none
theorem Pv {P:Program} {σ:ES}:∀ {rs:List ResultVar} {vs:List AV},Aes P σ rs=some vs→C8 P σ.toS rs=some vs
 | [],vs,h=>h
 | .tmp t::r,vs,h=>by
  simp only [Aes] at h
  split at h
  ·rename_i l hl
   cases h
   simp only [C8,Pv hl,lx34,DK]
   rfl
  ·cases h
 | .cell t ty::r,vs,h=>by
  simp only [Aes] at h
  split at h
  ·rename_i v hv
   rw [DK,Q7] at hv
   have hv:=Q6 hv
   split at h
   ·rename_i l hl
    cases h
    simp only [C8,hv,Pv hl,lx34]
   ·cases h
  ·cases h
structure TabE where
 ok:Nat→Bool
 isP:Nat→Bool
 hcl:Nat→Bool
 lit:Nat→Bool
 perm:Nat→Nat→Option (List Nat)
 keep:Nat→Bool
 isV:Nat→Bool
 givP:Nat→Bool
 givV:Nat→Bool
 givH:Nat→Bool
 givF:Nat→Bool
noncomputable def NY:Nat→Tr Blk→Nat→Option (Tr Blk × Nat)
 | 0,H,n=>some (H,n)
 | k+1,H,n=>match n with
  | 0=>none
  | m+1=>match H.pop m with
   | some H'=>NY k H' m
   | none=>none
noncomputable def Avx (keep:Bool) (n:Nat):Option (AV × ES)→Option (AV × Tr Blk × Nat × Nat)
 | some (r,σ)=>match keep with
  | true=>some (r,σ.H,σ.hn,σ.cnt)
  | false=>match NY (σ.hn - n) σ.H σ.hn with
   | some (H',n')=>some (r,H',n',σ.cnt)
   | none=>none
 | none=>none
noncomputable def Asy:Option (AV × ES)→Option AV
 | some (r,_)=>match okc r with
  | true=>some r
  | false=>none
 | none=>none
noncomputable def givT (G:Giv) (f:Nat) (args:List AV) (H:Tr Blk) (hn cnt:Nat):Option (AV × Tr Blk × Nat × Nat):=
 match G.h f args (H.toL dead hn) cnt with
 | some (r,H',c')=>some (r,Tr.ofL dead H',H'.length,c')
 | none=>none
def XD (t:TabE) (p v:Nat→List AV→Option AV) (h:Nat→List AV→Tr Blk→Nat→Nat→Option (AV × Tr Blk × Nat × Nat)) (f:Nat):EE:=⟨t.isP,t.isV,p,v,h,t.lit f,t.perm f,t.hcl⟩
noncomputable def Asz:Option (AV × ES)→Option AV
 | some (r,σ)=>match (dB 60 (σ.H.toL dead σ.hn) r).noref with
  | true=>some (dB 60 (σ.H.toL dead σ.hn) r)
  | false=>none
 | none=>none
def Rb (P:Program) (t:TabE):Prop:=∀ f fn c,t.ok f=true→P.funcs[f]?=some fn→fn.body=some c→
 (fn.name == "runtime.NumGoroutine")=false∧Dz (fun g=>t.hcl g && !t.isP g) (t.perm f) c=true
theorem NZ:∀ {k:Nat} {H H':Tr Blk} {n n':Nat},Tr.Fit H n→NY k H n=some (H',n')→Tr.Fit H' n'∧n'+k=n∧H'.toL dead n'=(H.toL dead n).take n'
 | 0,H,H',n,n',hf,h=>by
  simp only [NY,lx16,lx40] at h
  obtain ⟨rfl,rfl⟩:=h
  exact ⟨hf,rfl,by rw [lx118 (by rw [Tr.toL_len]; exact Ar _)]⟩
 | k+1,H,H',n,n',hf,h=>by
  cases n with
  | zero=>simp [NY] at h
  | succ m=>
   simp only [NY] at h
   split at h
   ·rename_i H1 h1
    obtain ⟨f1,f2,f3⟩:=NZ (Tr.pop_ok dead hf h1).2 h
    refine ⟨f1,by omega,?_⟩
    rw [f3,Tr.toL_pop hf h1,List.take_take,Nat.min_eq_left (by omega)]
   ·cases h
noncomputable def el {α:Type} {β:Type} (x:Option α) (z:β) (f:α→β):β:=Option.rec (motive:=fun _=>β) z f x
noncomputable def bB {β:Type} (b:Bool) (f t:β):β:=Bool.rec (motive:=fun _=>β) f t b
theorem Hz {α β:Type} (a:α) (z:β) (f:α→β):el (some a) z f=f a:=rfl
theorem K3 {β:Type} (f t:β):bB true f t=t:=rfl
theorem Kv {β:Type} (f t:β):bB false f t=f:=rfl
namespace Tr
noncomputable def setK {α R:Type} (x:α) (z:R) (p:Pth):Tr α→(Tr α→R)→R:=
 Pth.rec (motive:=fun _=>Tr α→(Tr α→R)→R) (fun t c=>Tr.rec (motive:=fun _=>R) z (fun _ l r _ _=>c (.node x l r)) t)
  (fun _ ih t c=>Tr.rec (motive:=fun _=>R) z (fun v l r _ _=>ih l (fun l'=>c (.node v l' r))) t)
  (fun _ ih t c=>Tr.rec (motive:=fun _=>R) z (fun v l r _ _=>ih r (fun r'=>c (.node v l r'))) t) p
theorem setK_eq {α R:Type} (x:α) (z:R):∀ (p:Pth) (t:Tr α) (c:Tr α→R),setK x z p t c=el (setP x p t) z c
 | .z,t,c=>by cases t <;> rfl
 | .o p,.nil,c=>rfl
 | .e p,.nil,c=>rfl
 | .o p,.node v l r,c=>by
  show setK x z p l (fun l'=>c (.node v l' r))=_
  rw [setK_eq x z p l]
  show _=el (Option.rec (motive:=fun _=>Option (Tr α)) none (fun l'=>some (.node v l' r)) (setP x p l)) z c
  cases setP x p l <;> rfl
 | .e p,.node v l r,c=>by
  show setK x z p r (fun r'=>c (.node v l r'))=_
  rw [setK_eq x z p r]
  show _=el (Option.rec (motive:=fun _=>Option (Tr α)) none (fun r'=>some (.node v l r')) (setP x p r)) z c
  cases setP x p r <;> rfl
end Tr
structure VFn where
 get:ES→AV
noncomputable def evC (x:Operand):VFn:=
 match x with
 | .tmp t=>⟨fun σ=>bB (Nat.blt t σ.n) .un (Tr.getP .un (pth t) σ.T)⟩
 | .const v=>⟨fun _=>Mt v⟩
 | .global _=>⟨fun _=>.jk⟩
 | .func f=>⟨fun _=>.fn f []⟩
theorem Avy (x:Operand) (σ:ES):(evC x).get σ=Ps σ x:=by
 cases x with
 | tmp t=>simp only [evC,Ps]; cases Nat.blt t σ.n <;> rfl
 | _=>rfl
noncomputable def O8 (σ:ES) (x:Operand):AV:=(evC x).get σ
theorem F4 (σ:ES):O8 σ=Ps σ:=funext fun x=>Avy x σ
noncomputable def gK (σ:ES) (id:Nat):Option Blk:=bB (Nat.blt id σ.hn) none (some (Tr.getN dead σ.H id))
theorem Ack (σ:ES):gK σ=gE σ:=by
 funext id
 simp only [gK,gE]
 cases Nat.blt id σ.hn <;> rfl
noncomputable def lbK (σ:ES) (id ver:Nat):Option Blk:=
 el (gK σ id) none (fun B=>bB (B.live && Nat.beq B.ver ver) none (some B))
theorem Avz (σ:ES):lbK σ=JZ (gE σ):=by
 funext id ver
 simp only [lbK,JZ,Ack]
 cases gE σ id with
 | none=>rfl
 | some B=>
  simp only [Hz]
  cases B.live && Nat.beq B.ver ver <;> rfl
structure PFn where
 put:{R:Type}→AV→ES→R→(ES→R)→R
noncomputable def JI (d:Option Nat):PFn:=
 match d with
 | none=>⟨fun _ σ _ c=>c σ⟩
 | some d=>⟨fun {R} v σ z c=>ES.rec (motive:=fun _=>R) (fun T n H hn cnt=>Tr.setK v z (pth d) T (fun T'=>c ⟨T',n,H,hn,cnt⟩)) σ⟩
noncomputable def fN {R:Type} (n:Nat) (c:Nat→R):R:=Nat.rec (motive:=fun _=>R) (c 0) (fun k _=>c (Nat.succ k)) n
theorem Ajs {R:Type} (n:Nat) (c:Nat→R):fN n c=c n:=by cases n <;> rfl
noncomputable def fT {α R:Type} (t:Tr α) (c:Tr α→R):R:=Tr.rec (motive:=fun _=>R) (c .nil) (fun v l r _ _=>c (.node v l r)) t
theorem At0 {α R:Type} (t:Tr α) (c:Tr α→R):fT t c=c t:=by cases t <;> rfl
def Aw0 (σ:ES) (d:Option Nat) (v:AV):Option ES:=
 match d with
 | none=>some σ
 | some d=>match σ.T.set d v with
  | some T'=>some ⟨T',σ.n,σ.H,σ.hn,σ.cnt⟩
  | none=>none
theorem Ajt (a:AV):frc a=some a:=by
 unfold frc
 repeat' split
 all_goals first | rfl | simp_all
theorem Anq (σ:ES) (d:Option Nat) (v:AV):Nf σ d v=Aw0 σ d v:=by
 unfold Nf Aw0
 cases d with
 | none=>rfl
 | some d=>simp only [Ajt,Tr.setP_eq] <;> rfl
theorem ID {R:Type} (d:Option Nat) (v:AV) (σ:ES) (z:R) (c:ES→R):(JI d).put v σ z c=el (Nf σ d v) z c:=by
 rw [Anq]
 cases d with
 | none=>rfl
 | some d=>
  simp only [JI,Aw0,Tr.setK_eq,Tr.setP_eq]
  cases σ.T.set d v <;> rfl
def asI (u:AV):Option Int:=
 match u with
 | .sc (.int .i64 n)=>some n
 | _=>none
def asB (u:AV):Option Int:=
 match u with
 | .sc (.int .u8 n)=>some n
 | _=>none
def asS (u:AV):Option (List UInt8):=
 match u with
 | .sc (.string b)=>some b.data.toList
 | _=>none
def asN (n:Int):Option Nat:=
 match n with
 | .ofNat m=>some m
 | _=>none
noncomputable def mkN (m:Nat):Option AV:=
 Nat.rec (motive:=fun _=>Option AV) (some (.sc (.int .i64 (.ofNat 0)))) (fun k _=>some (.sc (.int .i64 (.ofNat (Nat.succ k))))) m
theorem Uy (m:Nat):mkN m=some (.sc (.int .i64 (.ofNat m))):=by cases m <;> rfl
structure BFn where
 run:AV→AV→Option AV
noncomputable def YW (f:Int→Int→Bool):BFn:=
 ⟨fun u v=>el (asI u) (el (asB u) none (fun a=>el (asB v) none (fun b=>some (.sc (.bool (f a b)))))) (fun a=>el (asI v) none (fun b=>some (.sc (.bool (f a b)))))⟩
noncomputable def Bbh (f:List UInt8→List UInt8→Bool) (g:BFn):BFn:=
 ⟨fun u v=>el (asS u) (g.run u v) (fun a=>el (asS v) none (fun b=>some (.sc (.bool (f a b)))))⟩
noncomputable def qC (op:BinOp):BFn:=
 match op with
 | .lss=>YW fun a b=>not (leI b a)
 | .leq=>YW fun a b=>leI a b
 | .gtr=>YW fun a b=>not (leI a b)
 | .geq=>YW fun a b=>leI b a
 | .eql=>Bbh YO (YW eqI)
 | .neq=>Bbh (fun a b=>not (YO a b)) (YW fun a b=>not (eqI a b))
 | .add=>⟨fun u v=>el (asI u) none (fun a=>el (asI v) none (fun b=>el (asN a) none (fun m=>el (asN b) none (fun n=>bB (Nat.blt (Nat.add m n) 9223372036854775808) none (mkN (Nat.add m n))))))⟩
 | .sub=>⟨fun u v=>el (asI u) none (fun a=>el (asI v) none (fun b=>el (asN a) none (fun m=>el (asN b) none (fun n=>bB (Nat.blt m 9223372036854775808 && Nat.ble n m) none (mkN (Nat.sub m n))))))⟩
 | _=>⟨fun _ _=>none⟩
theorem Kw {u:AV} {n:Int} (h:asI u=some n):u=.sc (.int .i64 n):=by
 unfold asI at h
 split at h
 ·cases h; rfl
 ·cases h
theorem Aju {u:AV} {n:Int} (h:asB u=some n):u=.sc (.int .u8 n):=by
 unfold asB at h
 split at h
 ·cases h; rfl
 ·cases h
theorem Rd {u:AV} {l:List UInt8} (h:asS u=some l):∃ b:ByteArray,u=.sc (.string b)∧b.data.toList=l:=by
 unfold asS at h
 split at h
 ·rename_i b; cases h; exact ⟨b,rfl,rfl⟩
 ·cases h
theorem Kx {n:Int} {m:Nat} (h:asN n=some m):n=.ofNat m:=by
 unfold asN at h
 split at h
 ·cases h; rfl
 ·cases h
theorem F6 {α β:Type} {x:Option α} {z:Option β} {f:α→Option β} {r:β} (h:el x z f=some r):(x=none∧z=some r)∨∃ a,x=some a∧f a=some r:=by
 cases x with
 | none=>exact .inl ⟨rfl,h⟩
 | some a=>exact .inr ⟨a,rfl,h⟩
theorem Dw {α β:Type} {x:Option α} {f:α→Option β} {r:β} (h:el x none f=some r):∃ a,x=some a∧f a=some r:=by
 cases x with
 | none=>cases h
 | some a=>exact ⟨a,rfl,h⟩
theorem Re {β:Type} {b:Bool} {t:Option β} {r:β} (h:bB b none t=some r):b=true∧t=some r:=by
 cases b with
 | false=>cases h
 | true=>exact ⟨rfl,h⟩
theorem K4 {f:Int→Int→Bool} {op:BinOp} (hf:∀ k a b,qI op k a b=some (.sc (.bool (f a b)))) {u v r:AV} (h:(YW f).run u v=some r):YP op u v=some r:=by
 rcases F6 h with ⟨_,h⟩ | ⟨a,ha,h⟩
 ·obtain ⟨a,ha,h⟩:=Dw h
  obtain ⟨b,hb,h⟩:=Dw h
  rw [Aju ha,Aju hb,←h]
  exact hf .u8 a b
 ·obtain ⟨b,hb,h⟩:=Dw h
  rw [Kw ha,Kw hb,←h]
  exact hf .i64 a b
theorem At1 {op:BinOp} {u v r:AV} (h:(qC op).run u v=some r):YP op u v=some r:=by
 cases op
 case lss=>exact K4 (op:=.lss) (fun k a b=>rfl) h
 case leq=>exact K4 (op:=.leq) (fun k a b=>rfl) h
 case gtr=>exact K4 (op:=.gtr) (fun k a b=>rfl) h
 case geq=>exact K4 (op:=.geq) (fun k a b=>rfl) h
 case eql=>
  rcases F6 h with ⟨_,h⟩ | ⟨a,ha,h⟩
  ·exact K4 (op:=.eql) (fun k a b=>rfl) h
  ·exact Arn
 case neq=>
  rcases F6 h with ⟨_,h⟩ | ⟨a,ha,h⟩
  ·exact K4 (op:=.neq) (fun k a b=>rfl) h
  ·exact Arn
 case add=>
  obtain ⟨a,ha,h⟩:=Dw h
  obtain ⟨b,hb,h⟩:=Dw h
  obtain ⟨m,hm,h⟩:=Dw h
  obtain ⟨n,hn,h⟩:=Dw h
  obtain ⟨hc,h5⟩:=Re h
  rw [Uy] at h5
  have e1:=Kx hm
  have e2:=Kx hn
  subst e1 e2
  cases h5
  rw [Kw ha,Kw hb]
  show (match Nat.blt (Nat.add m n) 9223372036854775808 with | true=>_ | false=>none)=_
  rw [hc]
 case sub=>
  obtain ⟨a,ha,h⟩:=Dw h
  obtain ⟨b,hb,h⟩:=Dw h
  obtain ⟨m,hm,h⟩:=Dw h
  obtain ⟨n,hn,h⟩:=Dw h
  obtain ⟨hc,h5⟩:=Re h
  rw [Uy] at h5
  have e1:=Kx hm
  have e2:=Kx hn
  subst e1 e2
  cases h5
  rw [Kw ha,Kw hb]
  show (match Nat.blt m 9223372036854775808 && Nat.ble n m with | true=>_ | false=>none)=_
  rw [hc]
 all_goals cases h
def Ky (P:Program) (t:TypeId):Bool:=
 match P.underlying t with
 | some .string=>match Bt P t with
  | some d=>d.el.isNone && d.len.isNone
  | none=>false
 | _=>false
theorem N0 {P:Program} {t:TypeId} (h:Ky P t=true):P.underlying t=some .string∧∃ d,Bt P t=some d∧d.el=none∧d.len=none:=by
 unfold Ky at h
 split at h
 ·rename_i hu
  split at h
  ·rename_i d hd
   simp only [AX,Option.isNone_iff_eq_none] at h
   exact ⟨hu,d,hd,h.1,h.2⟩
  ·cases h
 ·cases h
noncomputable def Aw2 (l:List UInt8):Nat→Option UInt8:=
 List.rec (motive:=fun _=>Nat→Option UInt8) (fun _=>none) (fun b _ ih n=>Nat.rec (motive:=fun _=>Option UInt8) (some b) (fun k _=>ih k) n) l
theorem Acl:∀ (l:List UInt8) (n:Nat),Aw2 l n=l[n]?
 | [],n=>by cases n <;> rfl
 | b::l,0=>rfl
 | b::l,n+1=>by
  show Aw2 l n=_
  rw [Acl l n]
  simp
noncomputable def mkU (m:Nat):Option AV:=
 Nat.rec (motive:=fun _=>Option AV) (some (.sc (.int .u8 (.ofNat 0)))) (fun k _=>some (.sc (.int .u8 (.ofNat (Nat.succ k))))) m
theorem Ajv (m:Nat):mkU m=some (.sc (.int .u8 (.ofNat m))):=by cases m <;> rfl
noncomputable def Bbi (u v:AV):Option AV:=
 el (asS u) none fun l=>el (asI v) none fun n=>el (asN n) none fun m=>el (Aw2 l m) none fun b=>mkU b.toNat
theorem Anr {P:Program} {s:St} {t:TypeId} {x i:Operand} {r:AV} (ht:Ky P t=true) (h:Bbi (ev s.T x) (ev s.T i)=some r):AI P s (.index t x i)=some r:=by
 obtain ⟨l,hl,g1⟩:=Dw h
 obtain ⟨n,hn,g2⟩:=Dw g1
 obtain ⟨m,hm,g3⟩:=Dw g2
 obtain ⟨b,hb,g4⟩:=Dw g3
 rw [Ajv] at g4
 rw [Acl] at hb
 obtain ⟨bs,hbs,rfl⟩:=Rd hl
 have hi:=Kw hn
 have e:=Kx hm
 subst e
 obtain ⟨hu,d,hd,h1,h2⟩:=N0 ht
 have key:Cg P (Instr.index t (.string bs) (.int .i64 (.ofNat m)))=some (.int .u8 b.toNat):=by
  unfold Cg Instr.index
  simp only [Ak,asIntOf,An,lx17,AG,hu]
  have h0:(0:Int)≤Int.ofNat m:=NA m
  rw [if_pos h0]
  have e2:(Int.ofNat m).toNat=m:=rfl
  rw [e2]
  have e3:bs[m]?=some b:=by
   have hlt:m < bs.data.toList.length:=(lx22.1 hb).1
   have hlt':m < bs.size:=hlt
   have h5:=(lx22.1 hb).2
   rw [getElem?_pos bs m hlt']
   rw [←h5]
   rfl
  rw [e3]
  rfl
 simp only [AI,hd,h1,h2,hbs,hi,Cv,key]
 rw [←g4]
 rfl
noncomputable def Ajw (φ:Operand→AV) (x:Option Operand) (dflt:Nat):Option Nat:=
 match x with
 | none=>some dflt
 | some x=>el (asI (φ x)) none asN
noncomputable def Bbj (φ:Operand→AV) (u:AV) (lo hi:Option Operand):Option AV:=
 el (asS u) none fun l=>el (Ajw φ hi l.length) none fun b=>el (Ajw φ lo 0) none fun a=>
  bB (Nat.ble b l.length && Nat.ble a b) none (some (.sc (.string ⟨⟨(l.drop a).take (Nat.sub b a)⟩⟩)))
theorem Aet {φ:Operand→AV} {d a:Nat} (h:Ajw φ none d=some a):a=d:=by cases h; rfl
theorem Aeu {φ:Operand→AV} {x:Operand} {d a:Nat} (h:Ajw φ (some x) d=some a):φ x=.sc (.int .i64 (.ofNat a)):=by
 obtain ⟨n,hn,g1⟩:=Dw h
 rw [Kw hn,Kx g1]
theorem Ans {P:Program} {s:St} {t:TypeId} {x:Operand} {lo hi:Option Operand} {r:AV} (ht:Ky P t=true) (h:Bbj (ev s.T) (ev s.T x) lo hi=some r):AI P s (.slice t x lo hi none)=some r:=by
 obtain ⟨l,hl,g1⟩:=Dw h
 obtain ⟨b,hb,g2⟩:=Dw g1
 obtain ⟨a,ha,g3⟩:=Dw g2
 obtain ⟨hc,g4⟩:=Re g3
 simp only [AX] at hc
 have c1:=Nat.le_of_ble_eq_true hc.1
 have c2:=Nat.le_of_ble_eq_true hc.2
 obtain ⟨bs,hbs,rfl⟩:=Rd hl
 obtain ⟨hu,d,hd,h1,h2⟩:=N0 ht
 have c1:b≤bs.size:=c1
 have DE:∀ {y:Option Operand} {dflt c:Nat},Ajw (ev s.T) y dflt=some c→∃ v,Gi s.T y=some v∧((y=none∧v=none∧c=dflt)∨v=some (.int .i64 (.ofNat c))):=by
  intro y dflt c hy
  cases y with
  | none=>exact ⟨none,rfl,.inl ⟨rfl,rfl,Aet hy⟩⟩
  | some y=>exact ⟨some (.int .i64 (.ofNat c)),by simp only [Gi,Aeu hy,Cv],.inr rfl⟩
 obtain ⟨vh,kh,kh2⟩:=DE hb
 obtain ⟨vl,kl,kl2⟩:=DE ha
 have bnd:∀ (c n:Nat) (code:BoundsCode),c≤n→rd P (Instr.sliceBound (.int .i64 (c:Int)) n code) default=some c:=by
  intro c n code hcn
  have:=(PR (P:=P) (w:=default) (n:=Int.ofNat c) (hi:=n) (hi':=n) (r:=c) (by
   unfold PN
   have h0:(0:Int)≤Int.ofNat c:=NA c
   have h1:Int.ofNat c≤(n:Int):=Int.ofNat_le.2 hcn
   rw [if_pos ⟨h0,h1⟩]; rfl) (Ar n) .i64 code).1
  exact this
 have key:Cg P (Instr.sliceAt t (.string bs) vl vh none)=some (.string (bs.extract a b)):=by
  unfold Cg Instr.sliceAt
  simp only [Ak,AG,hu,lx17]
  unfold Instr.slice
  simp only [Ak,AG,hu,lx17]
  have hb2:rd P (Instr.sliceBounds false bs.size bs.size vl vh none) default=some (a,b,bs.size):=by
   unfold Instr.sliceBounds
   rcases kh2 with ⟨_,rfl,hbd⟩ | rfl
   ·have hbd:b=bs.size:=hbd
    subst hbd
    rcases kl2 with ⟨_,rfl,rfl⟩ | rfl
    ·simp [Ak,An]
    ·simp [Ak,An,Gp,bnd a _ .sliceB c2]
   ·rcases kl2 with ⟨_,rfl,rfl⟩ | rfl
    ·simp [Ak,An,Gp,bnd b _ .sliceAlen c1]
    ·simp [Ak,An,Gp,bnd b _ .sliceAlen c1,bnd a _ .sliceB c2]
  simp only [lx9,Dy,lx7,Ak,hb2,lx17,An]
 simp only [AI,hd,h1,h2,hbs,Cv,kl,kh,key,show Gi s.T none=some none from rfl]
 rw [←g4]
 have e:bs.extract a b=⟨⟨(bs.data.toList.drop a).take (Nat.sub b a)⟩⟩:=by
  have e1:(bs.extract a b).data=bs.data.extract a b:=Bc
  have e2:(bs.data.extract a b).toList=(bs.data.toList.drop a).take (b - a):=Bc
  cases hx:bs.extract a b with
  | mk dd=>
   rw [hx] at e1
   simp only at e1
   subst e1
   cases hy:bs.data.extract a b with
   | mk ll=>
    rw [hy] at e2
    simp only at e2
    rw [e2]
    rfl
 rw [e]
 rfl
def asC (u:AV):Option Int:=
 match u with
 | .sc (.int _ n)=>some n
 | _=>none
noncomputable def At2 (u:AV):Option AV:=el (asC u) none fun n=>el (asN n) none fun m=>bB (Nat.blt m 9223372036854775808) none (mkN m)
noncomputable def Bbk (u:AV):Option AV:=el (asC u) none fun n=>el (asN n) none fun m=>bB (Nat.blt m 256) none (mkU m)
theorem Ajx {u:AV} {n:Int} (h:asC u=some n):∃ k,u=.sc (.int k n):=by
 unfold asC at h
 split at h
 ·rename_i k n; cases h; exact ⟨k,rfl⟩
 ·cases h
theorem Ant {n:Int} (h:0≤n∧n≤255):IntKind.u8.wrap n=n:=by
 simp only [IntKind.wrap,IntKind.bits,IntKind.signed]
 simp
 omega
theorem Ajy {P:Program} {src dst:TypeId} {ks:IntKind} {u r:AV} (h1:P.underlying src=some (.int ks)) (h2:P.underlying dst=some (.int .i64)) (h:At2 u=some r):cvX P src dst u (P.underlying src) (P.underlying dst)=some r:=by
 obtain ⟨n,hn,g1⟩:=Dw h
 obtain ⟨m,hm,g2⟩:=Dw g1
 obtain ⟨hc,g3⟩:=Re g2
 obtain ⟨k,rfl⟩:=Ajx hn
 have e:=Kx hm
 subst e
 rw [Uy] at g3
 rw [h1,h2,Pj,←g3,Us]
 rw [Nat.blt_eq] at hc
 have:Int.ofNat m=(m:Int):=rfl
 rw [this]; omega
theorem Anu {P:Program} {src dst:TypeId} {ks:IntKind} {u r:AV} (h1:P.underlying src=some (.int ks)) (h2:P.underlying dst=some (.int .u8)) (h:Bbk u=some r):cvX P src dst u (P.underlying src) (P.underlying dst)=some r:=by
 obtain ⟨n,hn,g1⟩:=Dw h
 obtain ⟨m,hm,g2⟩:=Dw g1
 obtain ⟨hc,g3⟩:=Re g2
 obtain ⟨k,rfl⟩:=Ajx hn
 have e:=Kx hm
 subst e
 rw [Ajv] at g3
 rw [h1,h2,Pj,←g3,Ant]
 rw [Nat.blt_eq] at hc
 have:Int.ofNat m=(m:Int):=rfl
 rw [this]; omega
noncomputable def Bbl (u:AV):Option AV:=el (asS u) none fun l=>mkN l.length
theorem Anv {P:Program} {s:St} {t:TypeId} {x:Operand} {args:Array Operand} {ats:Array TypeId} {r:AV} (ha:args=#[x]) (hat:ats=#[t]) (ht:Ky P t=true) (h:Bbl (ev s.T x)=some r):
  AI P s (.call ⟨.builtin .len,args,ats⟩)=some r:=by
 subst ha hat
 obtain ⟨l,hl,g1⟩:=Dw h
 rw [Uy] at g1
 obtain ⟨bs,hbs,rfl⟩:=Rd hl
 obtain ⟨hu,d,hd,h1,h2⟩:=N0 ht
 have key:Cg P (Builtin.len_ #[t] 0 #[.string bs])=some (.int .i64 (bs.size:Int)):=by
  unfold Cg Builtin.len_
  simp only [lx39,lx45,Ak,AG,hu,lx17]
  rfl
 simp only [AI,hd,h1,h2,hbs,Cv,key]
 rw [←g1]
 rfl
structure WFn where
 run:ES→Option AV
noncomputable def N1 (P:Program) (o:Op):WFn:=⟨fun σ=>(Ajg P o).run (O8 σ) (lbK σ)⟩
noncomputable def Anw (P:Program) (o:Op):WFn:=
 match o with
 | .binOp op t x y ty=>⟨fun σ=>el ((qC op).run (O8 σ x) (O8 σ y)) ((N1 P o).run σ) some⟩
 | .move x=>⟨fun σ=>some (O8 σ x)⟩
 | .assign x=>⟨fun σ=>some (O8 σ x)⟩
 | .index t x i=>match Ky P t with
  | true=>⟨fun σ=>el (Bbi (O8 σ x) (O8 σ i)) ((N1 P o).run σ) some⟩
  | false=>N1 P o
 | .slice t x lo hi none=>match Ky P t with
  | true=>⟨fun σ=>el (Bbj (O8 σ) (O8 σ x) lo hi) ((N1 P o).run σ) some⟩
  | false=>N1 P o
 | .convert src dst x=>match P.underlying src with
  | some (.int ks)=>match P.underlying dst with
   | some (.int .i64)=>⟨fun σ=>el (At2 (O8 σ x)) ((N1 P o).run σ) some⟩
   | some (.int .u8)=>⟨fun σ=>el (Bbk (O8 σ x)) ((N1 P o).run σ) some⟩
   | _=>N1 P o
  | _=>N1 P o
 | .call ⟨.builtin .len,⟨[x]⟩,⟨[t]⟩⟩=>match Ky P t with
  | true=>⟨fun σ=>el (Bbl (O8 σ x)) ((N1 P o).run σ) some⟩
  | false=>N1 P o
 | _=>N1 P o
theorem Anx {P:Program} {o:Op} {σ:ES} {v:AV} (h:(Anw P o).run σ=some v):AI P σ.toS o=some v:=by
 have hall:(N1 P o).run σ=some v→AI P σ.toS o=some v:=by
  intro h
  have h:(Ajg P o).run (O8 σ) (lbK σ)=some v:=h
  rw [Ajh,F4,Avz,DK,Q7] at h
  exact Q6 h
 unfold Anw at h
 split at h
 ·rename_i op t x y ty
  rcases F6 h with ⟨_,h⟩ | ⟨r,hr,h⟩
  ·exact hall h
  ·cases h
   have:=Ac4 (P:=P) t x y (At1 hr)
   rw [F4,DK] at this
   rw [Jw,Te _ (by have:=At1 hr; rw [F4,DK] at this; exact this)]
   exact this
 ·refine hall ?_; exact h
 ·refine hall ?_; exact h
 ·split at h
  ·rename_i ht
   rcases F6 h with ⟨_,h⟩ | ⟨r,hr,h⟩
   ·exact hall h
   ·cases h
    rw [F4,DK] at hr
    exact Anr ht hr
  ·exact hall h
 ·split at h
  ·rename_i ht
   rcases F6 h with ⟨_,h⟩ | ⟨r,hr,h⟩
   ·exact hall h
   ·cases h
    rw [F4,DK] at hr
    exact Ans ht hr
  ·exact hall h
 ·split at h
  ·rename_i h1
   split at h
   ·rename_i h2
    rcases F6 h with ⟨_,h⟩ | ⟨r,hr,h⟩
    ·exact hall h
    ·cases h
     rw [F4,DK] at hr
     rw [Fz]
     exact Ajy h1 h2 hr
   ·rename_i h2
    rcases F6 h with ⟨_,h⟩ | ⟨r,hr,h⟩
    ·exact hall h
    ·cases h
     rw [F4,DK] at hr
     rw [Fz]
     exact Anu h1 h2 hr
   ·exact hall h
  ·exact hall h
 ·split at h
  ·rename_i ht
   rcases F6 h with ⟨_,h⟩ | ⟨r,hr,h⟩
   ·exact hall h
   ·cases h
    rw [F4,DK] at hr
    exact Anv rfl rfl ht hr
  ·exact hall h
 ·exact hall h
structure OFn where
 run:{R:Type}→Bool→EE→ES→R→(ES→R)→R
def OFn.Ok (P:Program) (f:OFn) (s:Bool→Env→St→Option St):Prop:=
 ∀ (R:Type) (lt:Bool) (E:EE) (σ:ES) (z r:R) (c:ES→R),E.Ok→σ.Inv→f.run lt E σ z c=r→r=z∨∃ σ',σ'.Inv∧σ'.n=σ.n∧s lt E.env σ.toS=some σ'.toS∧c σ'=r
noncomputable def hpK {R:Type} (P:Program) (o:Op) (p:PFn) (σ:ES) (z:R) (c:ES→R):R:=
 el ((Aji P o).run (O8 σ) (gK σ) σ.hn σ.cnt) z fun q=>ES.rec (motive:=fun _=>R) (fun T n H hn _=>
  el (YV q.2.1 H hn) z fun H1=>
   HA.rec (motive:=fun _=>R)
    (fun b=>el (H1.push (Nb q.2.1 hn) b) z fun H2=>fN (Nb q.2.1 hn+1) fun m=>fN q.2.2.2 fun cnt=>fT H2 fun H2=>p.put q.1 ⟨T,n,H2,m,cnt⟩ z c)
    (fun id b=>el (Tr.setN b H1 id) z fun H2=>fN (Nb q.2.1 hn) fun m=>fN q.2.2.2 fun cnt=>fT H2 fun H2=>p.put q.1 ⟨T,n,H2,m,cnt⟩ z c) q.2.2.1) σ
theorem Ajz {R:Type} (P:Program) (o:Op) (dst:Option Nat) (σ:ES) (z:R) (c:ES→R):hpK P o (JI dst) σ z c=el (Xy P σ o dst) z c:=by
 unfold hpK Xy
 rw [Xs,F4,Ack]
 cases Ib P (Ps σ) (gE σ) σ.hn σ.cnt o with
 | none=>rfl
 | some q=>
  obtain ⟨v,p,a,k⟩:=q
  obtain ⟨T,n,H,hn,cnt⟩:=σ
  simp only [Hz,Ajs,At0]
  cases YV p H hn with
  | none=>rfl
  | some H1=>
   simp only [Hz]
   cases a with
   | push b=>
    simp only
    cases H1.push (Nb p hn) b with
    | none=>rfl
    | some H2=>simp only [Hz,ID]
   | put id b=>
    simp only
    cases Tr.setN b H1 id with
    | none=>rfl
    | some H2=>simp only [Hz,ID]
noncomputable def lpK {R:Type} (P:Program) (o:Op) (p:PFn) (σ:ES) (z:R) (c:ES→R):R:=
 el ((Aji P o).run (O8 σ) (gK σ) σ.hn σ.cnt) z fun q=>
  bB q.2.1 (HA.rec (motive:=fun _=>R) (fun b=>bB (norefs b.els) z (ES.rec (motive:=fun _=>R) (fun T n H hn cnt=>fN (cnt+1) fun m=>p.put (.vw false b.els) ⟨T,n,H,hn,m⟩ z c) σ)) (fun _ _=>z) q.2.2.1) z
theorem Aw3 {R:Type} (P:Program) (o:Op) (dst:Option Nat) (σ:ES) (z:R) (c:ES→R):lpK P o (JI dst) σ z c=el (Ajn P σ o dst) z c:=by
 unfold lpK Ajn
 rw [Xs,F4,Ack]
 cases Ib P (Ps σ) (gE σ) σ.hn σ.cnt o with
 | none=>rfl
 | some q=>
  obtain ⟨v,p,a,k⟩:=q
  simp only [Hz]
  cases p with
  | true=>rfl
  | false=>
   cases a with
   | put id b=>rfl
   | push b=>
    simp only [Kv]
    cases norefs b.els with
    | false=>rfl
    | true=>simp only [K3,Ajs,ID]
noncomputable def Acm (args:List Operand) (f:Operand) (p:PFn) {R:Type} (E:EE) (σ:ES) (z:R) (c:ES→R):R:=
 match O8 σ f with
 | .fn g caps=>bB (E.isP g)
   (bB (E.isV g)
    (el (E.hc g (args.map (O8 σ)++caps) σ.H σ.hn σ.cnt) z fun q=>ES.rec (motive:=fun _=>R) (fun T n _ _ _=>fT q.2.1 fun H=>fN q.2.2.1 fun hn=>fN q.2.2.2 fun cnt=>p.put q.1 ⟨T,n,H,hn,cnt⟩ z c) σ)
    (bB (norefs (args.map (O8 σ)++caps)) z (el (E.vc g (args.map (O8 σ)++caps)) z fun r=>p.put r σ z c)))
   (el (E.pc g (LB (gK σ) (args.map (O8 σ)++caps))) z fun r=>p.put r σ z c)
 | _=>z
noncomputable def Acn (P:Program) (o:Oper):OFn:=
 match o.op with
 | .call { callee:=.value f,args,.. }=>⟨fun _ E σ z c=>Acm args.toList f (JI o.dst) E σ z c⟩
 | _=>match isHeapOp o.op with
  | true=>match CP o.op with
   | true=>⟨fun lt _ σ z c=>bB lt (hpK P o.op (JI o.dst) σ z c) (lpK P o.op (JI o.dst) σ z c)⟩
   | false=>⟨fun _ _ σ z c=>hpK P o.op (JI o.dst) σ z c⟩
  | false=>⟨fun _ _ σ z c=>el ((Anw P o.op).run σ) z fun v=>(JI o.dst).put v σ z c⟩
theorem XE {α R:Type} {x:Option α} {z r:R} {c:α→R} (h:el x z c=r):r=z∨∃ a,x=some a∧c a=r:=by
 cases x with
 | none=>exact .inl h.symm
 | some a=>exact .inr ⟨a,rfl,h⟩
theorem XF {R:Type} {b:Bool} {f t r:R} (h:bB b f t=r):(b=false∧f=r)∨(b=true∧t=r):=by
 cases b with
 | false=>exact .inl ⟨rfl,h⟩
 | true=>exact .inr ⟨rfl,h⟩
theorem Ak0 {R:Type} (op:Op) (f:Operand) (args:Array Operand) (ats:Array TypeId) (ho:op=.call ⟨.value f,args,ats⟩) (dst:Option Nat) (E:EE) (σ:ES) (z:R) (c:ES→R):
  Acm args.toList f (JI dst) E σ z c=el (match K2 (Ps σ) op with | some (g,as)=>Ach E σ g as dst | none=>none) z c:=by
 subst ho
 unfold Acm K2
 rw [F4,Ack]
 simp only
 cases Ps σ f <;> try rfl
 rename_i g caps
 simp only
 unfold Ach
 cases E.isP g with
 | true=>
  simp only [K3]
  cases E.pc g (LB (gE σ) (List.map (Ps σ) args.toList++caps)) with
  | none=>rfl
  | some r=>simp only [Hz,ID]
 | false=>
  simp only [Kv]
  cases E.isV g with
  | true=>
   simp only [K3]
   cases norefs (List.map (Ps σ) args.toList++caps) with
   | false=>rfl
   | true=>
    simp only [K3]
    cases E.vc g (List.map (Ps σ) args.toList++caps) with
    | none=>rfl
    | some r=>simp only [Hz,ID]
  | false=>
   simp only [Kv]
   cases E.hc g (List.map (Ps σ) args.toList++caps) σ.H σ.hn σ.cnt with
   | none=>rfl
   | some q=>simp only [Hz,At0,Ajs,ID]
theorem XG (P:Program) (o:Oper):(Acn P o).Ok P (fun lt E s=>LC P E s o lt):=by
 intro R lt E σ z r c hE hi h
 have viaE:∀ lt,el (OU P E σ o lt) z c=r→r=z∨∃ σ',σ'.Inv∧σ'.n=σ.n∧LC P E.env σ.toS o lt=some σ'.toS∧c σ'=r:=by
  intro lt h
  rcases XE h with h | ⟨σ',h1,h2⟩
  ·exact .inl h
  ·obtain ⟨q1,q2,q3⟩:=Q9 hE hi h1
   exact .inr ⟨σ',q1,q3,q2,h2⟩
 have rest:Cw o.op=false→(match isHeapOp o.op with
   | true=>match CP o.op with
    | true=>(⟨fun lt _ σ z c=>bB lt (hpK P o.op (JI o.dst) σ z c) (lpK P o.op (JI o.dst) σ z c)⟩:OFn)
    | false=>⟨fun _ _ σ z c=>hpK P o.op (JI o.dst) σ z c⟩
   | false=>⟨fun _ _ σ z c=>el ((Anw P o.op).run σ) z fun v=>(JI o.dst).put v σ z c⟩).run lt E σ z c=r→
   r=z∨∃ σ',σ'.Inv∧σ'.n=σ.n∧LC P E.env σ.toS o lt=some σ'.toS∧c σ'=r:=by
  intro hcall h
  cases hh:isHeapOp o.op with
  | true=>
   rw [hh] at h
   simp only at h
   cases hl:CP o.op with
   | true=>
    rw [hl] at h
    simp only at h
    refine viaE lt ?_
    unfold OU
    rw [hcall,hh,hl]
    simp only [GY]
    cases lt with
    | true=>rw [K3,Aw3] at h; exact h
    | false=>rw [Kv,Ajz] at h; exact h
   | false=>
    rw [hl] at h
    simp only at h
    refine viaE lt ?_
    unfold OU
    rw [hcall,hh,hl]
    simp only [HS]
    rw [Ajz] at h
    exact h
  | false=>
   rw [hh] at h
   simp only at h
   rcases XE h with h | ⟨v,hv,h⟩
   ·exact .inl h
   ·have hv:=Anx hv
    rw [ID] at h
    rcases XE h with h | ⟨σ',h1,h2⟩
    ·exact .inl h
    ·obtain ⟨q1,q2,q3,_⟩:=F3 hi h1
     refine .inr ⟨σ',q1,q3,?_,h2⟩
     have hl:(lt && CP o.op)=false:=by
      cases hq:CP o.op with
      | false=>rw [HS]
      | true=>rw [(Q8 hq).1] at hh; cases hh
     have hpure:Bf E.env σ.toS o.op=true:=by
      unfold Bf
      rw [hcall,if_neg (by decide),hh]; rfl
     unfold LC
     rw [if_neg (by rw [hl]; decide),if_pos hpure]
     unfold J3
     rw [hcall,if_neg (by decide),hv,lx34,q2]
 unfold Acn at h
 split at h
 ·rename_i f args ats ho
  have h:Acm args.toList f (JI o.dst) E σ z c=r:=h
  rw [Ak0 o.op f args ats ho] at h
  refine viaE lt ?_
  unfold OU
  rw [show Cw o.op=true by rw [ho]; rfl]
  exact h
 ·rename_i hno
  refine rest ?_ h
  cases hq:Cw o.op with
  | false=>rfl
  | true=>
   exfalso
   unfold Cw at hq
   split at hq
   ·rename_i f args ats ho
    exact hno _ _ _ ho
   ·cases hq
noncomputable def opK (P:Program) (all:Array Oper) (o:Oper):OFn:=
 match o.guard with
 | none=>Acn P o
 | some (j,want)=>match (all[j]?).bind (·.dst) with
  | some d=>⟨fun _ E σ z c=>match O8 σ (.tmp d) with
   | .sc (.bool b)=>bB (b == want) ((JI o.dst).put .un σ z c) ((Acn P o).run false E σ z c)
   | .un=>(JI o.dst).put .un σ z c
   | _=>z⟩
  | none=>⟨fun _ _ σ z c=>(JI o.dst).put .un σ z c⟩
def opS (P:Program) (all:Array Oper) (o:Oper) (lt:Bool) (E:Env) (s:St):Option St:=Gj lt o (Ai P E all s o) (Fc P s o.op o.dst)
theorem Ak1 (P:Program) (all:Array Oper) (o:Oper):(opK P all o).Ok P (opS P all o):=by
 intro R lt E σ z r c hE hi h
 unfold opK at h
 unfold opS Gj
 cases hg:o.guard with
 | none=>
  rw [hg] at h
  simp only at h
  rcases XG P o R lt E σ z r c hE hi h with h | ⟨σ',q1,q2,q3,q4⟩
  ·exact .inl h
  ·refine .inr ⟨σ',q1,q2,?_,q4⟩
   rw [←q3]
   unfold LC Ai
   simp only [hg,Option.isNone_none,GY]
 | some jw=>
  obtain ⟨j,want⟩:=jw
  have hn:(lt && CP o.op && (some (j,want)).isNone)=false:=Bc
  rw [hn,if_neg (by decide)]
  rw [hg] at h
  simp only at h
  have put:(JI o.dst).put .un σ z c=r→(Au all σ.toS j=.un∨∃ b,Au all σ.toS j=.sc (.bool b)∧¬ b=want)→r=z∨∃ σ',σ'.Inv∧σ'.n=σ.n∧Ai P E.env all σ.toS o=some σ'.toS∧c σ'=r:=by
   intro h hb
   rw [ID] at h
   rcases XE h with h | ⟨σ',h1,h2⟩
   ·exact .inl h
   ·obtain ⟨q1,q2,q3,_⟩:=F3 hi h1
    refine .inr ⟨σ',q1,q3,?_,h2⟩
    unfold Ai
    simp only [hg]
    rcases hb with hb | ⟨b,hb,hne⟩
    ·rw [hb]; simp only [q2]
    ·rw [hb]
     simp only [if_neg hne,lx34,q2]
     split <;> rfl
  have gv:Au all σ.toS j=gvE all σ j:=(Ajq all σ j).symm
  cases hd:(all[j]?).bind (·.dst) with
  | none=>
   rw [hd] at h
   simp only at h
   refine put h (.inl ?_)
   rw [gv]
   unfold gvE
   rw [hd]
  | some d=>
   rw [hd] at h
   simp only [F4] at h
   have gv:Au all σ.toS j=Ps σ (.tmp d):=by
    rw [gv]
    unfold gvE
    rw [hd]
   split at h
   ·rename_i b hb
    rcases XF h with ⟨hw,h⟩ | ⟨hw,h⟩
    ·exact put h (.inr ⟨b,by rw [gv,hb],fun e=>by rw [e] at hw; simp at hw⟩)
    ·have hw:b=want:=eq_of_beq hw
     rcases XG P o R false E σ z r c hE hi h with h | ⟨σ',q1,q2,q3,q4⟩
     ·exact .inl h
     ·refine .inr ⟨σ',q1,q2,?_,q4⟩
      rw [←q3]
      unfold LC Ai
      simp only [hg,gv,hb,LK,if_pos hw]
      rfl
   ·rename_i hb
    exact put h (.inl (by rw [gv,hb]))
   ·exact .inl h.symm
noncomputable def Ak2 (P:Program) (all:Array Oper) (l:List Oper):OFn:=
 match l with
 | []=>⟨fun _ _ σ _ c=>c σ⟩
 | o::r=>⟨fun lt E σ z c=>(opK P all o).run lt E σ z fun σ'=>(Ak2 P all r).run lt E σ' z c⟩
def Ak3 (P:Program) (all:Array Oper):List Oper→Bool→Env→St→Option St
 | [],_,_,s=>some s
 | o::r,lt,E,s=>match opS P all o lt E s with
  | some s'=>Ak3 P all r lt E s'
  | none=>none
theorem Aco (P:Program) (all:Array Oper) (E:Env):∀ (l:List Oper) (s:St),Ak3 P all l E.lit E s=Gr P E all l s
 | [],s=>rfl
 | o::r,s=>by
  simp only [Ak3,Gr,opS,KO]
  cases Gj E.lit o (Ai P E all s o) (Fc P s o.op o.dst) with
  | none=>rfl
  | some s'=>exact Aco P all E r s'
theorem Acp (P:Program) (all:Array Oper):∀ l,(Ak2 P all l).Ok P (Ak3 P all l)
 | []=>fun R lt E σ z r c hE hi h=>.inr ⟨σ,hi,rfl,rfl,h⟩
 | o::l=>fun R lt E σ z r c hE hi h=>by
  have h:(opK P all o).run lt E σ z (fun σ'=>(Ak2 P all l).run lt E σ' z c)=r:=by
   rw [←h]
   simp only [Ak2]
  rcases Ak1 P all o R lt E σ z r _ hE hi h with h | ⟨σ',q1,q2,q3,q4⟩
  ·exact .inl h
  ·rcases Acp P all l R lt E σ' z r c hE q1 q4 with h | ⟨σ2,k1,k2,k3,k4⟩
   ·exact .inl h
   ·exact .inr ⟨σ2,k1,k2.trans q2,by simp only [Ak3,q3]; exact k3,k4⟩
end Go.SX
