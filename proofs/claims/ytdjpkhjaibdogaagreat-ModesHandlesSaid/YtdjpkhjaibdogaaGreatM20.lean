/-
  Lemmas towards ModesHandles (joined texts: SYD, SYE).
  Conditions: none.
-/
import Derived.Test.YtdjpkhjaibdogaaGreatM01
import Derived.Test.YtdjpkhjaibdogaaGreatM19
set_option linter.unusedSimpArgs false
set_option linter.unusedVariables false
set_option maxRecDepth 100000
namespace Go.SX
structure PastE where
 at_:Nat
 σ:ES
structure DidE where
 at_:Nat
 o:Oper
 σ:ES
 T':Tr AV
def PastE.toP (p:PastE):Past:=⟨p.at_,p.σ.toS.H,p.σ.cnt⟩
def DidE.toD (d:DidE):Did:=⟨d.at_,d.o,d.σ.toS.T,d.T'.toL .un d.σ.n⟩
def OG (isP:Nat→Bool) (φ:Operand→AV) (o:Op):Bool:=
 match Cs o with
 | true=>match KD φ o with
  | some (g,_)=>isP g
  | none=>true
 | false=>!isHeapOp o
theorem Qs (E:EE) (s:St) (o:Op):OG E.isP (ev s.T) o=AZ E.env s o:=by
 unfold OG AZ
 rw [Ly]
 cases Cs o <;> rfl
def isVE (E:EE) (φ:Operand→AV) (o:Op):Bool:=
 Cs o && match KD φ o with
 | some (g,_)=>E.vb g
 | none=>false
theorem TQ (E:EE) (s:St) (o:Op):isVE E (ev s.T) o=isVop E.vb s o:=by
 unfold isVE isVop
 rw [Ly]
 rfl
noncomputable def sameE (P:Program) (E:EE) (all:Array Oper) (o:Oper) (T:Tr AV) (n:Nat) (T':Tr AV) (H:Tr Blk) (hn c:Nat):Bool:=
 match OG E.isP (OF ⟨T,n,H,hn,c⟩) o.op with
 | true=>match opE P E all ⟨T,n,H,hn,c⟩ o false,o.dst with
  | some σ1,some d=>match Nat.blt d n with
   | true=>Um (σ1.T.get .un d) (T'.get .un d)
   | false=>false
  | some _,none=>true
  | none,_=>false
 | false=>false
theorem WS {P:Program} {E:EE} (hE:E.Ok) {all:Array Oper} {o:Oper} {T T':Tr AV} {n:Nat} {H:Tr Blk} {hn c:Nat} (hf:Tr.Fit H hn) (h:sameE P E all o T n T' H hn c=true):
  sameB P E.env all o (T.toL .un n) (T'.toL .un n) (H.toL dead hn) c=true:=by
 unfold sameE at h
 unfold sameB
 split at h
 ·rename_i hp
  rw [DE,Qs] at hp
  have hp:AZ E.env ⟨T.toL .un n,H.toL dead hn,c⟩ o.op=true:=hp
  rw [hp,Gs]
  split at h
  ·rename_i σ1 d h1 hd
   obtain ⟨q1,q2,q3⟩:=Ahz hE (σ:=⟨T,n,H,hn,c⟩) hf h1
   have q2:Ah P E.env all ⟨T.toL .un n,H.toL dead hn,c⟩ o=some σ1.toS:=q2
   have q3:σ1.n=n:=q3
   rw [q2,hd]
   simp only
   split at h
   ·rename_i hb
    rw [blt_eq] at hb
    have hb:d < n:=by simpa using hb
    have e1:σ1.toS.T.getD d .un=σ1.T.get .un d:=by
     simp only [ES.toS,q3,lx80,Tr.toL_get,if_pos hb,lx10]
    have e2:(T'.toL .un n).getD d .un=T'.get .un d:=by
     simp only [lx80,Tr.toL_get,if_pos hb,lx10]
    rw [e1,e2]
    exact h
   ·cases h
  ·rename_i σ1 h1 hd
   obtain ⟨q1,q2,q3⟩:=Ahz hE (σ:=⟨T,n,H,hn,c⟩) hf h1
   have q2:Ah P E.env all ⟨T.toL .un n,H.toL dead hn,c⟩ o=some σ1.toS:=q2
   rw [q2,hd]
  ·cases h
 ·cases h
noncomputable def Aaw (P:Program) (E:EE) (ops:Array Oper) (i:Nat) (o:Oper) (T:Tr AV) (n:Nat) (T':Tr AV):List PastE→Bool
 | []=>true
 | h::r=>(gB E.hb ops h.at_ i || (isVE E (OF ⟨T,n,.nil,0,0⟩) o.op || sameE P E ops o T n T' h.σ.H h.σ.hn h.σ.cnt)) && Aaw P E ops i o T n T' r
noncomputable def Aax (P:Program) (E:EE) (ops:Array Oper) (k:Nat) (H:Tr Blk) (hn c:Nat):List DidE→Bool
 | []=>true
 | d::r=>(gB E.hb ops d.at_ k || (isVE E (OF ⟨d.σ.T,d.σ.n,.nil,0,0⟩) d.o.op || sameE P E ops d.o d.σ.T d.σ.n d.T' H hn c)) && Aax P E ops k H hn c r
noncomputable def Aqk (κ:Nat→Bool) (ops:Array Oper) (i:Nat) (σ:ES):Op→Bool
 | .buildSlice ..=>gB κ ops i i || norefs (σ.H.get dead (σ.hn - 1)).els
 | _=>true
theorem WT {P:Program} {E:EE} (hE:E.Ok) {ops:Array Oper} {i:Nat} {o:Oper} {T T':Tr AV} {n:Nat}:∀ {hs:List PastE},(∀ h ∈ hs,h.σ.Inv)→Aaw P E ops i o T n T' hs=true→
  Qk P E.env E.vb ops i o (T.toL .un n) (T'.toL .un n) (hs.map PastE.toP)=true
 | [],_,_=>rfl
 | h::r,hi,hb=>by
  simp only [Aaw,AT,Iu] at hb
  simp only [lx32,Qk,AT,Iu]
  refine ⟨hb.1.imp id fun q=>q.imp (fun q=>?_) fun q=>?_,WT hE (fun x hx=>hi x (lx49 _ hx)) hb.2⟩
  ·rw [DE,TQ] at q
   exact q
  ·exact WS hE (hi h lx48) q
theorem WU {P:Program} {E:EE} (hE:E.Ok) {ops:Array Oper} {k:Nat} {σ:ES} (hi:σ.Inv):∀ {ds:List DidE},Aax P E ops k σ.H σ.hn σ.cnt ds=true→
  Ql P E.env E.vb ops k σ.toS.H σ.toS.cnt (ds.map DidE.toD)=true
 | [],_=>rfl
 | d::r,hb=>by
  simp only [Aax,AT,Iu] at hb
  simp only [lx32,Ql,AT,Iu]
  refine ⟨hb.1.imp id fun q=>q.imp (fun q=>?_) fun q=>?_,WU hE hi hb.2⟩
  ·rw [DE,TQ] at q
   exact q
  ·exact WS hE hi q
theorem WV (H:Tr Blk):∀ {n:Nat},0 < n→Dh (H.toL dead n)=(H.get dead (n - 1)).els
 | n+1,_=>by
  have:H.toL dead (n+1)=H.toL dead n++[H.get dead n]:=by
   simp only [Tr.toL,List.range_succ,lx12,lx32,lx47]
  rw [this,DC]
  rfl
noncomputable def Ad2 (P:Program) (σ:ES):List ResultVar→Option (List AV)
 | []=>some []
 | .tmp t::r=>match Ad2 P σ r with
  | some l=>some (OF σ (.tmp t)::l)
  | none=>none
 | .cell t ty::r=>match Aan P (OF σ) (Jz (gE σ)) (.load ty (.tmp t)) with
  | some v=>match Ad2 P σ r with
   | some l=>some (v::l)
   | none=>none
  | none=>none
theorem OH {P:Program} {σ:ES}:∀ {rs:List ResultVar} {vs:List AV},Ad2 P σ rs=some vs→C3 P σ.toS rs=some vs
 | [],vs,h=>h
 | .tmp t::r,vs,h=>by
  simp only [Ad2] at h
  split at h
  ·rename_i l hl
   cases h
   simp only [C3,OH hl,lx34,DE]
   rfl
  ·cases h
 | .cell t ty::r,vs,h=>by
  simp only [Ad2] at h
  split at h
  ·rename_i v hv
   rw [DE,Qp] at hv
   have hv:=Qn hv
   split at h
   ·rename_i l hl
    cases h
    simp only [C3,hv,OH hl,lx34]
   ·cases h
  ·cases h
structure TabE where
 ok:Nat→Bool
 isP:Nat→Bool
 hcl:Nat→Bool
 lit:Nat→Bool
 perm:Nat→Nat→Option (List Nat)
 keep:Nat→Bool
 isV:Nat→Bool
 givP:Nat→Bool
 givV:Nat→Bool
 givH:Nat→Bool
 givF:Nat→Bool
noncomputable def Ng:Nat→Tr Blk→Nat→Option (Tr Blk × Nat)
 | 0,H,n=>some (H,n)
 | k+1,H,n=>match n with
  | 0=>none
  | m+1=>match H.pop m with
   | some H'=>Ng k H' m
   | none=>none
noncomputable def Ati (keep:Bool) (n:Nat):Option (AV × ES)→Option (AV × Tr Blk × Nat × Nat)
 | some (r,σ)=>match keep with
  | true=>some (r,σ.H,σ.hn,σ.cnt)
  | false=>match Ng (σ.hn - n) σ.H σ.hn with
   | some (H',n')=>some (r,H',n',σ.cnt)
   | none=>none
 | none=>none
noncomputable def Aql:Option (AV × ES)→Option AV
 | some (r,_)=>match okc r with
  | true=>some r
  | false=>none
 | none=>none
noncomputable def givT (G:Giv) (f:Nat) (args:List AV) (H:Tr Blk) (hn cnt:Nat):Option (AV × Tr Blk × Nat × Nat):=
 match G.h f args (H.toL dead hn) cnt with
 | some (r,H',c')=>some (r,Tr.ofL dead H',H'.length,c')
 | none=>none
def WW (t:TabE) (p v:Nat→List AV→Option AV) (h:Nat→List AV→Tr Blk→Nat→Nat→Option (AV × Tr Blk × Nat × Nat)) (f:Nat):EE:=⟨t.isP,t.isV,p,v,h,t.lit f,t.perm f,t.hcl⟩
noncomputable def Aqm:Option (AV × ES)→Option AV
 | some (r,σ)=>match (dB 60 (σ.H.toL dead σ.hn) r).noref with
  | true=>some (dB 60 (σ.H.toL dead σ.hn) r)
  | false=>none
 | none=>none
def Qt (P:Program) (t:TabE):Prop:=∀ f fn c,t.ok f=true→P.funcs[f]?=some fn→fn.body=some c→
 (fn.name == "runtime.NumGoroutine")=false∧Dv (fun g=>t.hcl g && !t.isP g) (t.perm f) c=true
theorem Nh:∀ {k:Nat} {H H':Tr Blk} {n n':Nat},Tr.Fit H n→Ng k H n=some (H',n')→Tr.Fit H' n'∧n'+k=n∧H'.toL dead n'=(H.toL dead n).take n'
 | 0,H,H',n,n',hf,h=>by
  simp only [Ng,lx16,lx40] at h
  obtain ⟨rfl,rfl⟩:=h
  exact ⟨hf,rfl,by rw [lx118 (by rw [Tr.toL_len]; exact Aw _)]⟩
 | k+1,H,H',n,n',hf,h=>by
  cases n with
  | zero=>simp [Ng] at h
  | succ m=>
   simp only [Ng] at h
   split at h
   ·rename_i H1 h1
    obtain ⟨f1,f2,f3⟩:=Nh (Tr.pop_ok dead hf h1).2 h
    refine ⟨f1,by omega,?_⟩
    rw [f3,Tr.toL_pop hf h1,List.take_take,Nat.min_eq_left (by omega)]
   ·cases h
noncomputable def el {α:Type} {β:Type} (x:Option α) (z:β) (f:α→β):β:=Option.rec (motive:=fun _=>β) z f x
noncomputable def bB {β:Type} (b:Bool) (f t:β):β:=Bool.rec (motive:=fun _=>β) f t b
theorem Hi {α β:Type} (a:α) (z:β) (f:α→β):el (some a) z f=f a:=rfl
theorem KE {β:Type} (f t:β):bB true f t=t:=rfl
theorem Kb {β:Type} (f t:β):bB false f t=f:=rfl
namespace Tr
noncomputable def setK {α R:Type} (x:α) (z:R) (p:Pth):Tr α→(Tr α→R)→R:=
 Pth.rec (motive:=fun _=>Tr α→(Tr α→R)→R) (fun t c=>Tr.rec (motive:=fun _=>R) z (fun _ l r _ _=>c (.node x l r)) t)
  (fun _ ih t c=>Tr.rec (motive:=fun _=>R) z (fun v l r _ _=>ih l (fun l'=>c (.node v l' r))) t)
  (fun _ ih t c=>Tr.rec (motive:=fun _=>R) z (fun v l r _ _=>ih r (fun r'=>c (.node v l r'))) t) p
theorem setK_eq {α R:Type} (x:α) (z:R):∀ (p:Pth) (t:Tr α) (c:Tr α→R),setK x z p t c=el (setP x p t) z c
 | .z,t,c=>by cases t <;> rfl
 | .o p,.nil,c=>rfl
 | .e p,.nil,c=>rfl
 | .o p,.node v l r,c=>by
  show setK x z p l (fun l'=>c (.node v l' r))=_
  rw [setK_eq x z p l]
  show _=el (Option.rec (motive:=fun _=>Option (Tr α)) none (fun l'=>some (.node v l' r)) (setP x p l)) z c
  cases setP x p l <;> rfl
 | .e p,.node v l r,c=>by
  show setK x z p r (fun r'=>c (.node v l r'))=_
  rw [setK_eq x z p r]
  show _=el (Option.rec (motive:=fun _=>Option (Tr α)) none (fun r'=>some (.node v l r')) (setP x p r)) z c
  cases setP x p r <;> rfl
end Tr
structure VFn where
 get:ES→AV
noncomputable def evC (x:Operand):VFn:=
 match x with
 | .tmp t=>⟨fun σ=>bB (Nat.blt t σ.n) .un (Tr.getP .un (pth t) σ.T)⟩
 | .const v=>⟨fun _=>LM v⟩
 | .global _=>⟨fun _=>.jk⟩
 | .func f=>⟨fun _=>.fn f []⟩
theorem Atj (x:Operand) (σ:ES):(evC x).get σ=OF σ x:=by
 cases x with
 | tmp t=>simp only [evC,OF]; cases Nat.blt t σ.n <;> rfl
 | _=>rfl
noncomputable def Oj (σ:ES) (x:Operand):AV:=(evC x).get σ
theorem Fs (σ:ES):Oj σ=OF σ:=funext fun x=>Atj x σ
noncomputable def gK (σ:ES) (id:Nat):Option Blk:=bB (Nat.blt id σ.hn) none (some (Tr.getN dead σ.H id))
theorem Aay (σ:ES):gK σ=gE σ:=by
 funext id
 simp only [gK,gE]
 cases Nat.blt id σ.hn <;> rfl
noncomputable def lbK (σ:ES) (id ver:Nat):Option Blk:=
 el (gK σ id) none (fun B=>bB (B.live && Nat.beq B.ver ver) none (some B))
theorem Atk (σ:ES):lbK σ=Jz (gE σ):=by
 funext id ver
 simp only [lbK,Jz,Aay]
 cases gE σ id with
 | none=>rfl
 | some B=>
  simp only [Hi]
  cases B.live && Nat.beq B.ver ver <;> rfl
structure PFn where
 put:{R:Type}→AV→ES→R→(ES→R)→R
noncomputable def Jg (d:Option Nat):PFn:=
 match d with
 | none=>⟨fun _ σ _ c=>c σ⟩
 | some d=>⟨fun {R} v σ z c=>ES.rec (motive:=fun _=>R) (fun T n H hn cnt=>Tr.setK v z (pth d) T (fun T'=>c ⟨T',n,H,hn,cnt⟩)) σ⟩
noncomputable def fN {R:Type} (n:Nat) (c:Nat→R):R:=Nat.rec (motive:=fun _=>R) (c 0) (fun k _=>c (Nat.succ k)) n
theorem Ai0 {R:Type} (n:Nat) (c:Nat→R):fN n c=c n:=by cases n <;> rfl
noncomputable def fT {α R:Type} (t:Tr α) (c:Tr α→R):R:=Tr.rec (motive:=fun _=>R) (c .nil) (fun v l r _ _=>c (.node v l r)) t
theorem Aqn {α R:Type} (t:Tr α) (c:Tr α→R):fT t c=c t:=by cases t <;> rfl
def Atl (σ:ES) (d:Option Nat) (v:AV):Option ES:=
 match d with
 | none=>some σ
 | some d=>match σ.T.set d v with
  | some T'=>some ⟨T',σ.n,σ.H,σ.hn,σ.cnt⟩
  | none=>none
theorem Ai1 (a:AV):frc a=some a:=by
 unfold frc
 repeat' split
 all_goals first | rfl | simp_all
theorem Alv (σ:ES) (d:Option Nat) (v:AV):My σ d v=Atl σ d v:=by
 unfold My Atl
 cases d with
 | none=>rfl
 | some d=>simp only [Ai1,Tr.setP_eq] <;> rfl
theorem Ib {R:Type} (d:Option Nat) (v:AV) (σ:ES) (z:R) (c:ES→R):(Jg d).put v σ z c=el (My σ d v) z c:=by
 rw [Alv]
 cases d with
 | none=>rfl
 | some d=>
  simp only [Jg,Atl,Tr.setK_eq,Tr.setP_eq]
  cases σ.T.set d v <;> rfl
def asI (u:AV):Option Int:=
 match u with
 | .sc (.int .i64 n)=>some n
 | _=>none
def asB (u:AV):Option Int:=
 match u with
 | .sc (.int .u8 n)=>some n
 | _=>none
def asS (u:AV):Option (List UInt8):=
 match u with
 | .sc (.string b)=>some b.data.toList
 | _=>none
def asN (n:Int):Option Nat:=
 match n with
 | .ofNat m=>some m
 | _=>none
noncomputable def mkN (m:Nat):Option AV:=
 Nat.rec (motive:=fun _=>Option AV) (some (.sc (.int .i64 (.ofNat 0)))) (fun k _=>some (.sc (.int .i64 (.ofNat (Nat.succ k))))) m
theorem TR (m:Nat):mkN m=some (.sc (.int .i64 (.ofNat m))):=by cases m <;> rfl
structure BFn where
 run:AV→AV→Option AV
noncomputable def Yd (f:Int→Int→Bool):BFn:=
 ⟨fun u v=>el (asI u) (el (asB u) none (fun a=>el (asB v) none (fun b=>some (.sc (.bool (f a b)))))) (fun a=>el (asI v) none (fun b=>some (.sc (.bool (f a b)))))⟩
noncomputable def Ayw (f:List UInt8→List UInt8→Bool) (g:BFn):BFn:=
 ⟨fun u v=>el (asS u) (g.run u v) (fun a=>el (asS v) none (fun b=>some (.sc (.bool (f a b)))))⟩
noncomputable def qC (op:BinOp):BFn:=
 match op with
 | .lss=>Yd fun a b=>not (leI b a)
 | .leq=>Yd fun a b=>leI a b
 | .gtr=>Yd fun a b=>not (leI a b)
 | .geq=>Yd fun a b=>leI b a
 | .eql=>Ayw X5 (Yd eqI)
 | .neq=>Ayw (fun a b=>not (X5 a b)) (Yd fun a b=>not (eqI a b))
 | .add=>⟨fun u v=>el (asI u) none (fun a=>el (asI v) none (fun b=>el (asN a) none (fun m=>el (asN b) none (fun n=>bB (Nat.blt (Nat.add m n) 9223372036854775808) none (mkN (Nat.add m n))))))⟩
 | .sub=>⟨fun u v=>el (asI u) none (fun a=>el (asI v) none (fun b=>el (asN a) none (fun m=>el (asN b) none (fun n=>bB (Nat.blt m 9223372036854775808 && Nat.ble n m) none (mkN (Nat.sub m n))))))⟩
 | _=>⟨fun _ _=>none⟩
theorem Kc {u:AV} {n:Int} (h:asI u=some n):u=.sc (.int .i64 n):=by
 unfold asI at h
 split at h
 ·cases h; rfl
 ·cases h
theorem Ai2 {u:AV} {n:Int} (h:asB u=some n):u=.sc (.int .u8 n):=by
 unfold asB at h
 split at h
 ·cases h; rfl
 ·cases h
theorem Qu {u:AV} {l:List UInt8} (h:asS u=some l):∃ b:ByteArray,u=.sc (.string b)∧b.data.toList=l:=by
 unfold asS at h
 split at h
 ·rename_i b; cases h; exact ⟨b,rfl,rfl⟩
 ·cases h
theorem Ke {n:Int} {m:Nat} (h:asN n=some m):n=.ofNat m:=by
 unfold asN at h
 split at h
 ·cases h; rfl
 ·cases h
theorem Ft {α β:Type} {x:Option α} {z:Option β} {f:α→Option β} {r:β} (h:el x z f=some r):(x=none∧z=some r)∨∃ a,x=some a∧f a=some r:=by
 cases x with
 | none=>exact .inl ⟨rfl,h⟩
 | some a=>exact .inr ⟨a,rfl,h⟩
theorem Ds {α β:Type} {x:Option α} {f:α→Option β} {r:β} (h:el x none f=some r):∃ a,x=some a∧f a=some r:=by
 cases x with
 | none=>cases h
 | some a=>exact ⟨a,rfl,h⟩
theorem Qv {β:Type} {b:Bool} {t:Option β} {r:β} (h:bB b none t=some r):b=true∧t=some r:=by
 cases b with
 | false=>cases h
 | true=>exact ⟨rfl,h⟩
theorem KF {f:Int→Int→Bool} {op:BinOp} (hf:∀ k a b,qI op k a b=some (.sc (.bool (f a b)))) {u v r:AV} (h:(Yd f).run u v=some r):X6 op u v=some r:=by
 rcases Ft h with ⟨_,h⟩ | ⟨a,ha,h⟩
 ·obtain ⟨a,ha,h⟩:=Ds h
  obtain ⟨b,hb,h⟩:=Ds h
  rw [Ai2 ha,Ai2 hb,←h]
  exact hf .u8 a b
 ·obtain ⟨b,hb,h⟩:=Ds h
  rw [Kc ha,Kc hb,←h]
  exact hf .i64 a b
theorem Aqo {op:BinOp} {u v r:AV} (h:(qC op).run u v=some r):X6 op u v=some r:=by
 cases op
 case lss=>exact KF (op:=.lss) (fun k a b=>rfl) h
 case leq=>exact KF (op:=.leq) (fun k a b=>rfl) h
 case gtr=>exact KF (op:=.gtr) (fun k a b=>rfl) h
 case geq=>exact KF (op:=.geq) (fun k a b=>rfl) h
 case eql=>
  rcases Ft h with ⟨_,h⟩ | ⟨a,ha,h⟩
  ·exact KF (op:=.eql) (fun k a b=>rfl) h
  ·exact Apd
 case neq=>
  rcases Ft h with ⟨_,h⟩ | ⟨a,ha,h⟩
  ·exact KF (op:=.neq) (fun k a b=>rfl) h
  ·exact Apd
 case add=>
  obtain ⟨a,ha,h⟩:=Ds h
  obtain ⟨b,hb,h⟩:=Ds h
  obtain ⟨m,hm,h⟩:=Ds h
  obtain ⟨n,hn,h⟩:=Ds h
  obtain ⟨hc,h5⟩:=Qv h
  rw [TR] at h5
  have e1:=Ke hm
  have e2:=Ke hn
  subst e1 e2
  cases h5
  rw [Kc ha,Kc hb]
  show (match Nat.blt (Nat.add m n) 9223372036854775808 with | true=>_ | false=>none)=_
  rw [hc]
 case sub=>
  obtain ⟨a,ha,h⟩:=Ds h
  obtain ⟨b,hb,h⟩:=Ds h
  obtain ⟨m,hm,h⟩:=Ds h
  obtain ⟨n,hn,h⟩:=Ds h
  obtain ⟨hc,h5⟩:=Qv h
  rw [TR] at h5
  have e1:=Ke hm
  have e2:=Ke hn
  subst e1 e2
  cases h5
  rw [Kc ha,Kc hb]
  show (match Nat.blt m 9223372036854775808 && Nat.ble n m with | true=>_ | false=>none)=_
  rw [hc]
 all_goals cases h
def Kf (P:Program) (t:TypeId):Bool:=
 match P.underlying t with
 | some .string=>match Bp P t with
  | some d=>d.el.isNone && d.len.isNone
  | none=>false
 | _=>false
theorem Ni {P:Program} {t:TypeId} (h:Kf P t=true):P.underlying t=some .string∧∃ d,Bp P t=some d∧d.el=none∧d.len=none:=by
 unfold Kf at h
 split at h
 ·rename_i hu
  split at h
  ·rename_i d hd
   simp only [AT,Option.isNone_iff_eq_none] at h
   exact ⟨hu,d,hd,h.1,h.2⟩
  ·cases h
 ·cases h
noncomputable def Atn (l:List UInt8):Nat→Option UInt8:=
 List.rec (motive:=fun _=>Nat→Option UInt8) (fun _=>none) (fun b _ ih n=>Nat.rec (motive:=fun _=>Option UInt8) (some b) (fun k _=>ih k) n) l
theorem Aaz:∀ (l:List UInt8) (n:Nat),Atn l n=l[n]?
 | [],n=>by cases n <;> rfl
 | b::l,0=>rfl
 | b::l,n+1=>by
  show Atn l n=_
  rw [Aaz l n]
  simp
noncomputable def mkU (m:Nat):Option AV:=
 Nat.rec (motive:=fun _=>Option AV) (some (.sc (.int .u8 (.ofNat 0)))) (fun k _=>some (.sc (.int .u8 (.ofNat (Nat.succ k))))) m
theorem Ai3 (m:Nat):mkU m=some (.sc (.int .u8 (.ofNat m))):=by cases m <;> rfl
noncomputable def Ayx (u v:AV):Option AV:=
 el (asS u) none fun l=>el (asI v) none fun n=>el (asN n) none fun m=>el (Atn l m) none fun b=>mkU b.toNat
theorem Alw {P:Program} {s:St} {t:TypeId} {x i:Operand} {r:AV} (ht:Kf P t=true) (h:Ayx (ev s.T x) (ev s.T i)=some r):AH P s (.index t x i)=some r:=by
 obtain ⟨l,hl,g1⟩:=Ds h
 obtain ⟨n,hn,g2⟩:=Ds g1
 obtain ⟨m,hm,g3⟩:=Ds g2
 obtain ⟨b,hb,g4⟩:=Ds g3
 rw [Ai3] at g4
 rw [Aaz] at hb
 obtain ⟨bs,hbs,rfl⟩:=Qu hl
 have hi:=Kc hn
 have e:=Ke hm
 subst e
 obtain ⟨hu,d,hd,h1,h2⟩:=Ni ht
 have key:B8 P (Instr.index t (.string bs) (.int .i64 (.ofNat m)))=some (.int .u8 b.toNat):=by
  unfold B8 Instr.index
  simp only [Ak,asIntOf,An,lx17,AF,hu]
  have h0:(0:Int)≤Int.ofNat m:=MS m
  rw [if_pos h0]
  have e2:(Int.ofNat m).toNat=m:=rfl
  rw [e2]
  have e3:bs[m]?=some b:=by
   have hlt:m < bs.data.toList.length:=(lx22.1 hb).1
   have hlt':m < bs.size:=hlt
   have h5:=(lx22.1 hb).2
   rw [getElem?_pos bs m hlt']
   rw [←h5]
   rfl
  rw [e3]
  rfl
 simp only [AH,hd,h1,h2,hbs,hi,Cr,key]
 rw [←g4]
 rfl
noncomputable def Ai4 (φ:Operand→AV) (x:Option Operand) (dflt:Nat):Option Nat:=
 match x with
 | none=>some dflt
 | some x=>el (asI (φ x)) none asN
noncomputable def Ayy (φ:Operand→AV) (u:AV) (lo hi:Option Operand):Option AV:=
 el (asS u) none fun l=>el (Ai4 φ hi l.length) none fun b=>el (Ai4 φ lo 0) none fun a=>
  bB (Nat.ble b l.length && Nat.ble a b) none (some (.sc (.string ⟨⟨(l.drop a).take (Nat.sub b a)⟩⟩)))
theorem Ad3 {φ:Operand→AV} {d a:Nat} (h:Ai4 φ none d=some a):a=d:=by cases h; rfl
theorem Ad4 {φ:Operand→AV} {x:Operand} {d a:Nat} (h:Ai4 φ (some x) d=some a):φ x=.sc (.int .i64 (.ofNat a)):=by
 obtain ⟨n,hn,g1⟩:=Ds h
 rw [Kc hn,Ke g1]
theorem Alx {P:Program} {s:St} {t:TypeId} {x:Operand} {lo hi:Option Operand} {r:AV} (ht:Kf P t=true) (h:Ayy (ev s.T) (ev s.T x) lo hi=some r):AH P s (.slice t x lo hi none)=some r:=by
 obtain ⟨l,hl,g1⟩:=Ds h
 obtain ⟨b,hb,g2⟩:=Ds g1
 obtain ⟨a,ha,g3⟩:=Ds g2
 obtain ⟨hc,g4⟩:=Qv g3
 simp only [AT] at hc
 have c1:=Nat.le_of_ble_eq_true hc.1
 have c2:=Nat.le_of_ble_eq_true hc.2
 obtain ⟨bs,hbs,rfl⟩:=Qu hl
 obtain ⟨hu,d,hd,h1,h2⟩:=Ni ht
 have c1:b≤bs.size:=c1
 have DA:∀ {y:Option Operand} {dflt c:Nat},Ai4 (ev s.T) y dflt=some c→∃ v,F6 s.T y=some v∧((y=none∧v=none∧c=dflt)∨v=some (.int .i64 (.ofNat c))):=by
  intro y dflt c hy
  cases y with
  | none=>exact ⟨none,rfl,.inl ⟨rfl,rfl,Ad3 hy⟩⟩
  | some y=>exact ⟨some (.int .i64 (.ofNat c)),by simp only [F6,Ad4 hy,Cr],.inr rfl⟩
 obtain ⟨vh,kh,kh2⟩:=DA hb
 obtain ⟨vl,kl,kl2⟩:=DA ha
 have bnd:∀ (c n:Nat) (code:BoundsCode),c≤n→rd P (Instr.sliceBound (.int .i64 (c:Int)) n code) default=some c:=by
  intro c n code hcn
  have:=(O2 (P:=P) (w:=default) (n:=Int.ofNat c) (hi:=n) (hi':=n) (r:=c) (by
   unfold OZ
   have h0:(0:Int)≤Int.ofNat c:=MS c
   have h1:Int.ofNat c≤(n:Int):=Int.ofNat_le.2 hcn
   rw [if_pos ⟨h0,h1⟩]; rfl) (Aw n) .i64 code).1
  exact this
 have key:B8 P (Instr.sliceAt t (.string bs) vl vh none)=some (.string (bs.extract a b)):=by
  unfold B8 Instr.sliceAt
  simp only [Ak,AF,hu,lx17]
  unfold Instr.slice
  simp only [Ak,AF,hu,lx17]
  have hb2:rd P (Instr.sliceBounds false bs.size bs.size vl vh none) default=some (a,b,bs.size):=by
   unfold Instr.sliceBounds
   rcases kh2 with ⟨_,rfl,hbd⟩ | rfl
   ·have hbd:b=bs.size:=hbd
    subst hbd
    rcases kl2 with ⟨_,rfl,rfl⟩ | rfl
    ·simp [Ak,An]
    ·simp [Ak,An,F9,bnd a _ .sliceB c2]
   ·rcases kl2 with ⟨_,rfl,rfl⟩ | rfl
    ·simp [Ak,An,F9,bnd b _ .sliceAlen c1]
    ·simp [Ak,An,F9,bnd b _ .sliceAlen c1,bnd a _ .sliceB c2]
  simp only [lx9,Dt,lx7,Ak,hb2,lx17,An]
 simp only [AH,hd,h1,h2,hbs,Cr,kl,kh,key,show F6 s.T none=some none from rfl]
 rw [←g4]
 have e:bs.extract a b=⟨⟨(bs.data.toList.drop a).take (Nat.sub b a)⟩⟩:=by
  have e1:(bs.extract a b).data=bs.data.extract a b:=Bc
  have e2:(bs.data.extract a b).toList=(bs.data.toList.drop a).take (b - a):=Bc
  cases hx:bs.extract a b with
  | mk dd=>
   rw [hx] at e1
   simp only at e1
   subst e1
   cases hy:bs.data.extract a b with
   | mk ll=>
    rw [hy] at e2
    simp only at e2
    rw [e2]
    rfl
 rw [e]
 rfl
def asC (u:AV):Option Int:=
 match u with
 | .sc (.int _ n)=>some n
 | _=>none
noncomputable def Aqp (u:AV):Option AV:=el (asC u) none fun n=>el (asN n) none fun m=>bB (Nat.blt m 9223372036854775808) none (mkN m)
noncomputable def Ayz (u:AV):Option AV:=el (asC u) none fun n=>el (asN n) none fun m=>bB (Nat.blt m 256) none (mkU m)
theorem Ai5 {u:AV} {n:Int} (h:asC u=some n):∃ k,u=.sc (.int k n):=by
 unfold asC at h
 split at h
 ·rename_i k n; cases h; exact ⟨k,rfl⟩
 ·cases h
theorem Aly {n:Int} (h:0≤n∧n≤255):IntKind.u8.wrap n=n:=by
 simp only [IntKind.wrap,IntKind.bits,IntKind.signed]
 simp
 omega
theorem Ai6 {P:Program} {src dst:TypeId} {ks:IntKind} {u r:AV} (h1:P.underlying src=some (.int ks)) (h2:P.underlying dst=some (.int .i64)) (h:Aqp u=some r):cvX P src dst u (P.underlying src) (P.underlying dst)=some r:=by
 obtain ⟨n,hn,g1⟩:=Ds h
 obtain ⟨m,hm,g2⟩:=Ds g1
 obtain ⟨hc,g3⟩:=Qv g2
 obtain ⟨k,rfl⟩:=Ai5 hn
 have e:=Ke hm
 subst e
 rw [TR] at g3
 rw [h1,h2,Ow,←g3,TL]
 rw [Nat.blt_eq] at hc
 have:Int.ofNat m=(m:Int):=rfl
 rw [this]; omega
theorem Alz {P:Program} {src dst:TypeId} {ks:IntKind} {u r:AV} (h1:P.underlying src=some (.int ks)) (h2:P.underlying dst=some (.int .u8)) (h:Ayz u=some r):cvX P src dst u (P.underlying src) (P.underlying dst)=some r:=by
 obtain ⟨n,hn,g1⟩:=Ds h
 obtain ⟨m,hm,g2⟩:=Ds g1
 obtain ⟨hc,g3⟩:=Qv g2
 obtain ⟨k,rfl⟩:=Ai5 hn
 have e:=Ke hm
 subst e
 rw [Ai3] at g3
 rw [h1,h2,Ow,←g3,Aly]
 rw [Nat.blt_eq] at hc
 have:Int.ofNat m=(m:Int):=rfl
 rw [this]; omega
noncomputable def Az0 (u:AV):Option AV:=el (asS u) none fun l=>mkN l.length
theorem Am0 {P:Program} {s:St} {t:TypeId} {x:Operand} {args:Array Operand} {ats:Array TypeId} {r:AV} (ha:args=#[x]) (hat:ats=#[t]) (ht:Kf P t=true) (h:Az0 (ev s.T x)=some r):
  AH P s (.call ⟨.builtin .len,args,ats⟩)=some r:=by
 subst ha hat
 obtain ⟨l,hl,g1⟩:=Ds h
 rw [TR] at g1
 obtain ⟨bs,hbs,rfl⟩:=Qu hl
 obtain ⟨hu,d,hd,h1,h2⟩:=Ni ht
 have key:B8 P (Builtin.len_ #[t] 0 #[.string bs])=some (.int .i64 (bs.size:Int)):=by
  unfold B8 Builtin.len_
  simp only [lx39,lx45,Ak,AF,hu,lx17]
  rfl
 simp only [AH,hd,h1,h2,hbs,Cr,key]
 rw [←g1]
 rfl
structure WFn where
 run:ES→Option AV
noncomputable def Nj (P:Program) (o:Op):WFn:=⟨fun σ=>(Ahm P o).run (Oj σ) (lbK σ)⟩
noncomputable def Am1 (P:Program) (o:Op):WFn:=
 match o with
 | .binOp op t x y ty=>⟨fun σ=>el ((qC op).run (Oj σ x) (Oj σ y)) ((Nj P o).run σ) some⟩
 | .move x=>⟨fun σ=>some (Oj σ x)⟩
 | .assign x=>⟨fun σ=>some (Oj σ x)⟩
 | .index t x i=>match Kf P t with
  | true=>⟨fun σ=>el (Ayx (Oj σ x) (Oj σ i)) ((Nj P o).run σ) some⟩
  | false=>Nj P o
 | .slice t x lo hi none=>match Kf P t with
  | true=>⟨fun σ=>el (Ayy (Oj σ) (Oj σ x) lo hi) ((Nj P o).run σ) some⟩
  | false=>Nj P o
 | .convert src dst x=>match P.underlying src with
  | some (.int ks)=>match P.underlying dst with
   | some (.int .i64)=>⟨fun σ=>el (Aqp (Oj σ x)) ((Nj P o).run σ) some⟩
   | some (.int .u8)=>⟨fun σ=>el (Ayz (Oj σ x)) ((Nj P o).run σ) some⟩
   | _=>Nj P o
  | _=>Nj P o
 | .call ⟨.builtin .len,⟨[x]⟩,⟨[t]⟩⟩=>match Kf P t with
  | true=>⟨fun σ=>el (Az0 (Oj σ x)) ((Nj P o).run σ) some⟩
  | false=>Nj P o
 | _=>Nj P o
theorem Am2 {P:Program} {o:Op} {σ:ES} {v:AV} (h:(Am1 P o).run σ=some v):AH P σ.toS o=some v:=by
 have hall:(Nj P o).run σ=some v→AH P σ.toS o=some v:=by
  intro h
  have h:(Ahm P o).run (Oj σ) (lbK σ)=some v:=h
  rw [Ahn,Fs,Atk,DE,Qp] at h
  exact Qn h
 unfold Am1 at h
 split at h
 ·rename_i op t x y ty
  rcases Ft h with ⟨_,h⟩ | ⟨r,hr,h⟩
  ·exact hall h
  ·cases h
   have:=Aal (P:=P) t x y (Aqo hr)
   rw [Fs,DE] at this
   rw [I9,SB _ (by have:=Aqo hr; rw [Fs,DE] at this; exact this)]
   exact this
 ·refine hall ?_; exact h
 ·refine hall ?_; exact h
 ·split at h
  ·rename_i ht
   rcases Ft h with ⟨_,h⟩ | ⟨r,hr,h⟩
   ·exact hall h
   ·cases h
    rw [Fs,DE] at hr
    exact Alw ht hr
  ·exact hall h
 ·split at h
  ·rename_i ht
   rcases Ft h with ⟨_,h⟩ | ⟨r,hr,h⟩
   ·exact hall h
   ·cases h
    rw [Fs,DE] at hr
    exact Alx ht hr
  ·exact hall h
 ·split at h
  ·rename_i h1
   split at h
   ·rename_i h2
    rcases Ft h with ⟨_,h⟩ | ⟨r,hr,h⟩
    ·exact hall h
    ·cases h
     rw [Fs,DE] at hr
     rw [Fm]
     exact Ai6 h1 h2 hr
   ·rename_i h2
    rcases Ft h with ⟨_,h⟩ | ⟨r,hr,h⟩
    ·exact hall h
    ·cases h
     rw [Fs,DE] at hr
     rw [Fm]
     exact Alz h1 h2 hr
   ·exact hall h
  ·exact hall h
 ·split at h
  ·rename_i ht
   rcases Ft h with ⟨_,h⟩ | ⟨r,hr,h⟩
   ·exact hall h
   ·cases h
    rw [Fs,DE] at hr
    exact Am0 rfl rfl ht hr
  ·exact hall h
 ·exact hall h
structure OFn where
 run:{R:Type}→Bool→EE→ES→R→(ES→R)→R
def OFn.Ok (P:Program) (f:OFn) (s:Bool→Env→St→Option St):Prop:=
 ∀ (R:Type) (lt:Bool) (E:EE) (σ:ES) (z r:R) (c:ES→R),E.Ok→σ.Inv→f.run lt E σ z c=r→r=z∨∃ σ',σ'.Inv∧σ'.n=σ.n∧s lt E.env σ.toS=some σ'.toS∧c σ'=r
noncomputable def hpK {R:Type} (P:Program) (o:Op) (p:PFn) (σ:ES) (z:R) (c:ES→R):R:=
 el ((Aho P o).run (Oj σ) (gK σ) σ.hn σ.cnt) z fun q=>ES.rec (motive:=fun _=>R) (fun T n H hn _=>
  el (Yc q.2.1 H hn) z fun H1=>
   HA.rec (motive:=fun _=>R)
    (fun b=>el (H1.push (Mv q.2.1 hn) b) z fun H2=>fN (Mv q.2.1 hn+1) fun m=>fN q.2.2.2 fun cnt=>fT H2 fun H2=>p.put q.1 ⟨T,n,H2,m,cnt⟩ z c)
    (fun id b=>el (Tr.setN b H1 id) z fun H2=>fN (Mv q.2.1 hn) fun m=>fN q.2.2.2 fun cnt=>fT H2 fun H2=>p.put q.1 ⟨T,n,H2,m,cnt⟩ z c) q.2.2.1) σ
theorem Ai7 {R:Type} (P:Program) (o:Op) (dst:Option Nat) (σ:ES) (z:R) (c:ES→R):hpK P o (Jg dst) σ z c=el (WR P σ o dst) z c:=by
 unfold hpK WR
 rw [WM,Fs,Aay]
 cases HG P (OF σ) (gE σ) σ.hn σ.cnt o with
 | none=>rfl
 | some q=>
  obtain ⟨v,p,a,k⟩:=q
  obtain ⟨T,n,H,hn,cnt⟩:=σ
  simp only [Hi,Ai0,Aqn]
  cases Yc p H hn with
  | none=>rfl
  | some H1=>
   simp only [Hi]
   cases a with
   | push b=>
    simp only
    cases H1.push (Mv p hn) b with
    | none=>rfl
    | some H2=>simp only [Hi,Ib]
   | put id b=>
    simp only
    cases Tr.setN b H1 id with
    | none=>rfl
    | some H2=>simp only [Hi,Ib]
noncomputable def lpK {R:Type} (P:Program) (o:Op) (p:PFn) (σ:ES) (z:R) (c:ES→R):R:=
 el ((Aho P o).run (Oj σ) (gK σ) σ.hn σ.cnt) z fun q=>
  bB q.2.1 (HA.rec (motive:=fun _=>R) (fun b=>bB (norefs b.els) z (ES.rec (motive:=fun _=>R) (fun T n H hn cnt=>fN (cnt+1) fun m=>p.put (.vw false b.els) ⟨T,n,H,hn,m⟩ z c) σ)) (fun _ _=>z) q.2.2.1) z
theorem Ato {R:Type} (P:Program) (o:Op) (dst:Option Nat) (σ:ES) (z:R) (c:ES→R):lpK P o (Jg dst) σ z c=el (Ahv P σ o dst) z c:=by
 unfold lpK Ahv
 rw [WM,Fs,Aay]
 cases HG P (OF σ) (gE σ) σ.hn σ.cnt o with
 | none=>rfl
 | some q=>
  obtain ⟨v,p,a,k⟩:=q
  simp only [Hi]
  cases p with
  | true=>rfl
  | false=>
   cases a with
   | put id b=>rfl
   | push b=>
    simp only [Kb]
    cases norefs b.els with
    | false=>rfl
    | true=>simp only [KE,Ai0,Ib]
noncomputable def Ab0 (args:List Operand) (f:Operand) (p:PFn) {R:Type} (E:EE) (σ:ES) (z:R) (c:ES→R):R:=
 match Oj σ f with
 | .fn g caps=>bB (E.isP g)
   (bB (E.isV g)
    (el (E.hc g (args.map (Oj σ)++caps) σ.H σ.hn σ.cnt) z fun q=>ES.rec (motive:=fun _=>R) (fun T n _ _ _=>fT q.2.1 fun H=>fN q.2.2.1 fun hn=>fN q.2.2.2 fun cnt=>p.put q.1 ⟨T,n,H,hn,cnt⟩ z c) σ)
    (bB (norefs (args.map (Oj σ)++caps)) z (el (E.vc g (args.map (Oj σ)++caps)) z fun r=>p.put r σ z c)))
   (el (E.pc g (K9 (gK σ) (args.map (Oj σ)++caps))) z fun r=>p.put r σ z c)
 | _=>z
noncomputable def Ab1 (P:Program) (o:Oper):OFn:=
 match o.op with
 | .call { callee:=.value f,args,.. }=>⟨fun _ E σ z c=>Ab0 args.toList f (Jg o.dst) E σ z c⟩
 | _=>match isHeapOp o.op with
  | true=>match CK o.op with
   | true=>⟨fun lt _ σ z c=>bB lt (hpK P o.op (Jg o.dst) σ z c) (lpK P o.op (Jg o.dst) σ z c)⟩
   | false=>⟨fun _ _ σ z c=>hpK P o.op (Jg o.dst) σ z c⟩
  | false=>⟨fun _ _ σ z c=>el ((Am1 P o.op).run σ) z fun v=>(Jg o.dst).put v σ z c⟩
theorem WX {α R:Type} {x:Option α} {z r:R} {c:α→R} (h:el x z c=r):r=z∨∃ a,x=some a∧c a=r:=by
 cases x with
 | none=>exact .inl h.symm
 | some a=>exact .inr ⟨a,rfl,h⟩
theorem WY {R:Type} {b:Bool} {f t r:R} (h:bB b f t=r):(b=false∧f=r)∨(b=true∧t=r):=by
 cases b with
 | false=>exact .inl ⟨rfl,h⟩
 | true=>exact .inr ⟨rfl,h⟩
theorem Ai8 {R:Type} (op:Op) (f:Operand) (args:Array Operand) (ats:Array TypeId) (ho:op=.call ⟨.value f,args,ats⟩) (dst:Option Nat) (E:EE) (σ:ES) (z:R) (c:ES→R):
  Ab0 args.toList f (Jg dst) E σ z c=el (match KD (OF σ) op with | some (g,as)=>Aav E σ g as dst | none=>none) z c:=by
 subst ho
 unfold Ab0 KD
 rw [Fs,Aay]
 simp only
 cases OF σ f <;> try rfl
 rename_i g caps
 simp only
 unfold Aav
 cases E.isP g with
 | true=>
  simp only [KE]
  cases E.pc g (K9 (gE σ) (List.map (OF σ) args.toList++caps)) with
  | none=>rfl
  | some r=>simp only [Hi,Ib]
 | false=>
  simp only [Kb]
  cases E.isV g with
  | true=>
   simp only [KE]
   cases norefs (List.map (OF σ) args.toList++caps) with
   | false=>rfl
   | true=>
    simp only [KE]
    cases E.vc g (List.map (OF σ) args.toList++caps) with
    | none=>rfl
    | some r=>simp only [Hi,Ib]
  | false=>
   simp only [Kb]
   cases E.hc g (List.map (OF σ) args.toList++caps) σ.H σ.hn σ.cnt with
   | none=>rfl
   | some q=>simp only [Hi,Aqn,Ai0,Ib]
theorem WZ (P:Program) (o:Oper):(Ab1 P o).Ok P (fun lt E s=>La P E s o lt):=by
 intro R lt E σ z r c hE hi h
 have viaE:∀ lt,el (N8 P E σ o lt) z c=r→r=z∨∃ σ',σ'.Inv∧σ'.n=σ.n∧La P E.env σ.toS o lt=some σ'.toS∧c σ'=r:=by
  intro lt h
  rcases WX h with h | ⟨σ',h1,h2⟩
  ·exact .inl h
  ·obtain ⟨q1,q2,q3⟩:=Qr hE hi h1
   exact .inr ⟨σ',q1,q3,q2,h2⟩
 have rest:Cs o.op=false→(match isHeapOp o.op with
   | true=>match CK o.op with
    | true=>(⟨fun lt _ σ z c=>bB lt (hpK P o.op (Jg o.dst) σ z c) (lpK P o.op (Jg o.dst) σ z c)⟩:OFn)
    | false=>⟨fun _ _ σ z c=>hpK P o.op (Jg o.dst) σ z c⟩
   | false=>⟨fun _ _ σ z c=>el ((Am1 P o.op).run σ) z fun v=>(Jg o.dst).put v σ z c⟩).run lt E σ z c=r→
   r=z∨∃ σ',σ'.Inv∧σ'.n=σ.n∧La P E.env σ.toS o lt=some σ'.toS∧c σ'=r:=by
  intro hcall h
  cases hh:isHeapOp o.op with
  | true=>
   rw [hh] at h
   simp only at h
   cases hl:CK o.op with
   | true=>
    rw [hl] at h
    simp only at h
    refine viaE lt ?_
    unfold N8
    rw [hcall,hh,hl]
    simp only [Gt]
    cases lt with
    | true=>rw [KE,Ato] at h; exact h
    | false=>rw [Kb,Ai7] at h; exact h
   | false=>
    rw [hl] at h
    simp only at h
    refine viaE lt ?_
    unfold N8
    rw [hcall,hh,hl]
    simp only [Hr]
    rw [Ai7] at h
    exact h
  | false=>
   rw [hh] at h
   simp only at h
   rcases WX h with h | ⟨v,hv,h⟩
   ·exact .inl h
   ·have hv:=Am2 hv
    rw [Ib] at h
    rcases WX h with h | ⟨σ',h1,h2⟩
    ·exact .inl h
    ·obtain ⟨q1,q2,q3,_⟩:=Fq hi h1
     refine .inr ⟨σ',q1,q3,?_,h2⟩
     have hl:(lt && CK o.op)=false:=by
      cases hq:CK o.op with
      | false=>rw [Hr]
      | true=>rw [(Qq hq).1] at hh; cases hh
     have hpure:AZ E.env σ.toS o.op=true:=by
      unfold AZ
      rw [hcall,if_neg (by decide),hh]; rfl
     unfold La
     rw [if_neg (by rw [hl]; decide),if_pos hpure]
     unfold JG
     rw [hcall,if_neg (by decide),hv,lx34,q2]
 unfold Ab1 at h
 split at h
 ·rename_i f args ats ho
  have h:Ab0 args.toList f (Jg o.dst) E σ z c=r:=h
  rw [Ai8 o.op f args ats ho] at h
  refine viaE lt ?_
  unfold N8
  rw [show Cs o.op=true by rw [ho]; rfl]
  exact h
 ·rename_i hno
  refine rest ?_ h
  cases hq:Cs o.op with
  | false=>rfl
  | true=>
   exfalso
   unfold Cs at hq
   split at hq
   ·rename_i f args ats ho
    exact hno _ _ _ ho
   ·cases hq
noncomputable def opK (P:Program) (all:Array Oper) (o:Oper):OFn:=
 match o.guard with
 | none=>Ab1 P o
 | some (j,want)=>match (all[j]?).bind (·.dst) with
  | some d=>⟨fun _ E σ z c=>match Oj σ (.tmp d) with
   | .sc (.bool b)=>bB (b == want) ((Jg o.dst).put .un σ z c) ((Ab1 P o).run false E σ z c)
   | .un=>(Jg o.dst).put .un σ z c
   | _=>z⟩
  | none=>⟨fun _ _ σ z c=>(Jg o.dst).put .un σ z c⟩
def opS (P:Program) (all:Array Oper) (o:Oper) (lt:Bool) (E:Env) (s:St):Option St:=F7 lt o (Ah P E all s o) (EX P s o.op o.dst)
theorem Ai9 (P:Program) (all:Array Oper) (o:Oper):(opK P all o).Ok P (opS P all o):=by
 intro R lt E σ z r c hE hi h
 unfold opK at h
 unfold opS F7
 cases hg:o.guard with
 | none=>
  rw [hg] at h
  simp only at h
  rcases WZ P o R lt E σ z r c hE hi h with h | ⟨σ',q1,q2,q3,q4⟩
  ·exact .inl h
  ·refine .inr ⟨σ',q1,q2,?_,q4⟩
   rw [←q3]
   unfold La Ah
   simp only [hg,Option.isNone_none,Gt]
 | some jw=>
  obtain ⟨j,want⟩:=jw
  have hn:(lt && CK o.op && (some (j,want)).isNone)=false:=Bc
  rw [hn,if_neg (by decide)]
  rw [hg] at h
  simp only at h
  have put:(Jg o.dst).put .un σ z c=r→(Ap all σ.toS j=.un∨∃ b,Ap all σ.toS j=.sc (.bool b)∧¬ b=want)→r=z∨∃ σ',σ'.Inv∧σ'.n=σ.n∧Ah P E.env all σ.toS o=some σ'.toS∧c σ'=r:=by
   intro h hb
   rw [Ib] at h
   rcases WX h with h | ⟨σ',h1,h2⟩
   ·exact .inl h
   ·obtain ⟨q1,q2,q3,_⟩:=Fq hi h1
    refine .inr ⟨σ',q1,q3,?_,h2⟩
    unfold Ah
    simp only [hg]
    rcases hb with hb | ⟨b,hb,hne⟩
    ·rw [hb]; simp only [q2]
    ·rw [hb]
     simp only [if_neg hne,lx34,q2]
     split <;> rfl
  have gv:Ap all σ.toS j=gvE all σ j:=(Ahy all σ j).symm
  cases hd:(all[j]?).bind (·.dst) with
  | none=>
   rw [hd] at h
   simp only at h
   refine put h (.inl ?_)
   rw [gv]
   unfold gvE
   rw [hd]
  | some d=>
   rw [hd] at h
   simp only [Fs] at h
   have gv:Ap all σ.toS j=OF σ (.tmp d):=by
    rw [gv]
    unfold gvE
    rw [hd]
   split at h
   ·rename_i b hb
    rcases WY h with ⟨hw,h⟩ | ⟨hw,h⟩
    ·exact put h (.inr ⟨b,by rw [gv,hb],fun e=>by rw [e] at hw; simp at hw⟩)
    ·have hw:b=want:=eq_of_beq hw
     rcases WZ P o R false E σ z r c hE hi h with h | ⟨σ',q1,q2,q3,q4⟩
     ·exact .inl h
     ·refine .inr ⟨σ',q1,q2,?_,q4⟩
      rw [←q3]
      unfold La Ah
      simp only [hg,gv,hb,Lg,if_pos hw]
      rfl
   ·rename_i hb
    exact put h (.inl (by rw [gv,hb]))
   ·exact .inl h.symm
noncomputable def Aia (P:Program) (all:Array Oper) (l:List Oper):OFn:=
 match l with
 | []=>⟨fun _ _ σ _ c=>c σ⟩
 | o::r=>⟨fun lt E σ z c=>(opK P all o).run lt E σ z fun σ'=>(Aia P all r).run lt E σ' z c⟩
def Aib (P:Program) (all:Array Oper):List Oper→Bool→Env→St→Option St
 | [],_,_,s=>some s
 | o::r,lt,E,s=>match opS P all o lt E s with
  | some s'=>Aib P all r lt E s'
  | none=>none
theorem Ab2 (P:Program) (all:Array Oper) (E:Env):∀ (l:List Oper) (s:St),Aib P all l E.lit E s=Gb P E all l s
 | [],s=>rfl
 | o::r,s=>by
  simp only [Aib,Gb,opS,Kr]
  cases F7 E.lit o (Ah P E all s o) (EX P s o.op o.dst) with
  | none=>rfl
  | some s'=>exact Ab2 P all E r s'
theorem Ab3 (P:Program) (all:Array Oper):∀ l,(Aia P all l).Ok P (Aib P all l)
 | []=>fun R lt E σ z r c hE hi h=>.inr ⟨σ,hi,rfl,rfl,h⟩
 | o::l=>fun R lt E σ z r c hE hi h=>by
  have h:(opK P all o).run lt E σ z (fun σ'=>(Aia P all l).run lt E σ' z c)=r:=by
   rw [←h]
   simp only [Aia]
  rcases Ai9 P all o R lt E σ z r _ hE hi h with h | ⟨σ',q1,q2,q3,q4⟩
  ·exact .inl h
  ·rcases Ab3 P all l R lt E σ' z r c hE q1 q4 with h | ⟨σ2,k1,k2,k3,k4⟩
   ·exact .inl h
   ·exact .inr ⟨σ2,k1,k2.trans q2,by simp only [Aib,q3]; exact k3,k4⟩
end Go.SX
