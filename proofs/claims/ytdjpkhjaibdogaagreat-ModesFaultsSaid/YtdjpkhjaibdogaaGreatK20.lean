/-
  Lemmas towards ModesFaults (joined texts: SYD, SYE).
  Conditions: none.
-/
import Derived.Test.YtdjpkhjaibdogaaGreatK01
import Derived.Test.YtdjpkhjaibdogaaGreatK19
set_option linter.unusedSimpArgs false
set_option linter.unusedVariables false
set_option maxRecDepth 100000
namespace Go.SX
structure PastE where
 at_:Nat
 σ:ES
structure DidE where
 at_:Nat
 o:Oper
 σ:ES
 T':Tr AV
def PastE.toP (p:PastE):Past:=⟨p.at_,p.σ.toS.H,p.σ.cnt⟩
def DidE.toD (d:DidE):Did:=⟨d.at_,d.o,d.σ.toS.T,d.T'.toL .un d.σ.n⟩
def N3 (isP:Nat→Bool) (φ:Operand→AV) (o:Op):Bool:=
 match B9 o with
 | true=>match JV φ o with
  | some (g,_)=>isP g
  | none=>true
 | false=>!isHeapOp o
theorem PG (E:EE) (s:St) (o:Op):N3 E.isP (ev s.T) o=AP E.env s o:=by
 unfold N3 AP
 rw [KM]
 cases B9 o <;> rfl
def isVE (E:EE) (φ:Operand→AV) (o:Op):Bool:=
 B9 o && match JV φ o with
 | some (g,_)=>E.vb g
 | none=>false
theorem Ta (E:EE) (s:St) (o:Op):isVE E (ev s.T) o=isVop E.vb s o:=by
 unfold isVE isVop
 rw [KM]
 rfl
noncomputable def sameE (P:Program) (E:EE) (all:Array Oper) (o:Oper) (T:Tr AV) (n:Nat) (T':Tr AV) (H:Tr Blk) (hn c:Nat):Bool:=
 match N3 E.isP (N2 ⟨T,n,H,hn,c⟩) o.op with
 | true=>match opE P E all ⟨T,n,H,hn,c⟩ o false,o.dst with
  | some σ1,some d=>match Nat.blt d n with
   | true=>TI (σ1.T.get .un d) (T'.get .un d)
   | false=>false
  | some _,none=>true
  | none,_=>false
 | false=>false
theorem We {P:Program} {E:EE} (hE:E.Ok) {all:Array Oper} {o:Oper} {T T':Tr AV} {n:Nat} {H:Tr Blk} {hn c:Nat} (hf:Tr.Fit H hn) (h:sameE P E all o T n T' H hn c=true):
  sameB P E.env all o (T.toL .un n) (T'.toL .un n) (H.toL dead hn) c=true:=by
 unfold sameE at h
 unfold sameB
 split at h
 ·rename_i hp
  rw [Dj,PG] at hp
  have hp:AP E.env ⟨T.toL .un n,H.toL dead hn,c⟩ o.op=true:=hp
  rw [hp,Kw]
  split at h
  ·rename_i σ1 d h1 hd
   obtain ⟨q1,q2,q3⟩:=Agz hE (σ:=⟨T,n,H,hn,c⟩) hf h1
   have q2:Ad P E.env all ⟨T.toL .un n,H.toL dead hn,c⟩ o=some σ1.toS:=q2
   have q3:σ1.n=n:=q3
   rw [q2,hd]
   simp only
   split at h
   ·rename_i hb
    rw [blt_eq] at hb
    have hb:d < n:=by simpa using hb
    have e1:σ1.toS.T.getD d .un=σ1.T.get .un d:=by
     simp only [ES.toS,q3,lx80,Tr.toL_get,if_pos hb,lx10]
    have e2:(T'.toL .un n).getD d .un=T'.get .un d:=by
     simp only [lx80,Tr.toL_get,if_pos hb,lx10]
    rw [e1,e2]
    exact h
   ·cases h
  ·rename_i σ1 h1 hd
   obtain ⟨q1,q2,q3⟩:=Agz hE (σ:=⟨T,n,H,hn,c⟩) hf h1
   have q2:Ad P E.env all ⟨T.toL .un n,H.toL dead hn,c⟩ o=some σ1.toS:=q2
   rw [q2,hd]
  ·cases h
 ·cases h
noncomputable def Z2 (P:Program) (E:EE) (ops:Array Oper) (i:Nat) (o:Oper) (T:Tr AV) (n:Nat) (T':Tr AV):List PastE→Bool
 | []=>true
 | h::r=>(gB E.hb ops h.at_ i || (isVE E (N2 ⟨T,n,.nil,0,0⟩) o.op || sameE P E ops o T n T' h.σ.H h.σ.hn h.σ.cnt)) && Z2 P E ops i o T n T' r
noncomputable def Z3 (P:Program) (E:EE) (ops:Array Oper) (k:Nat) (H:Tr Blk) (hn c:Nat):List DidE→Bool
 | []=>true
 | d::r=>(gB E.hb ops d.at_ k || (isVE E (N2 ⟨d.σ.T,d.σ.n,.nil,0,0⟩) d.o.op || sameE P E ops d.o d.σ.T d.σ.n d.T' H hn c)) && Z3 P E ops k H hn c r
noncomputable def Apa (κ:Nat→Bool) (ops:Array Oper) (i:Nat) (σ:ES):Op→Bool
 | .buildSlice ..=>gB κ ops i i || norefs (σ.H.get dead (σ.hn - 1)).els
 | _=>true
theorem Wf {P:Program} {E:EE} (hE:E.Ok) {ops:Array Oper} {i:Nat} {o:Oper} {T T':Tr AV} {n:Nat}:∀ {hs:List PastE},(∀ h ∈ hs,h.σ.Inv)→Z2 P E ops i o T n T' hs=true→
  Pz P E.env E.vb ops i o (T.toL .un n) (T'.toL .un n) (hs.map PastE.toP)=true
 | [],_,_=>rfl
 | h::r,hi,hb=>by
  simp only [Z2,AH,IX] at hb
  simp only [lx32,Pz,AH,IX]
  refine ⟨hb.1.imp id fun q=>q.imp (fun q=>?_) fun q=>?_,Wf hE (fun x hx=>hi x (lx49 _ hx)) hb.2⟩
  ·rw [Dj,Ta] at q
   exact q
  ·exact We hE (hi h lx48) q
theorem Wg {P:Program} {E:EE} (hE:E.Ok) {ops:Array Oper} {k:Nat} {σ:ES} (hi:σ.Inv):∀ {ds:List DidE},Z3 P E ops k σ.H σ.hn σ.cnt ds=true→
  PA P E.env E.vb ops k σ.toS.H σ.toS.cnt (ds.map DidE.toD)=true
 | [],_=>rfl
 | d::r,hb=>by
  simp only [Z3,AH,IX] at hb
  simp only [lx32,PA,AH,IX]
  refine ⟨hb.1.imp id fun q=>q.imp (fun q=>?_) fun q=>?_,Wg hE hi hb.2⟩
  ·rw [Dj,Ta] at q
   exact q
  ·exact We hE hi q
theorem Wh (H:Tr Blk):∀ {n:Nat},0 < n→CZ (H.toL dead n)=(H.get dead (n - 1)).els
 | n+1,_=>by
  have:H.toL dead (n+1)=H.toL dead n++[H.get dead n]:=by
   simp only [Tr.toL,List.range_succ,lx12,lx32,lx47]
  rw [this,Dg]
  rfl
noncomputable def Abu (P:Program) (σ:ES):List ResultVar→Option (List AV)
 | []=>some []
 | .tmp t::r=>match Abu P σ r with
  | some l=>some (N2 σ (.tmp t)::l)
  | none=>none
 | .cell t ty::r=>match ZP P (N2 σ) (IS (gE σ)) (.load ty (.tmp t)) with
  | some v=>match Abu P σ r with
   | some l=>some (v::l)
   | none=>none
  | none=>none
theorem N4 {P:Program} {σ:ES}:∀ {rs:List ResultVar} {vs:List AV},Abu P σ rs=some vs→CP P σ.toS rs=some vs
 | [],vs,h=>h
 | .tmp t::r,vs,h=>by
  simp only [Abu] at h
  split at h
  ·rename_i l hl
   cases h
   simp only [CP,N4 hl,lx34,Dj]
   rfl
  ·cases h
 | .cell t ty::r,vs,h=>by
  simp only [Abu] at h
  split at h
  ·rename_i v hv
   rw [Dj,PD] at hv
   have hv:=PC hv
   split at h
   ·rename_i l hl
    cases h
    simp only [CP,hv,N4 hl,lx34]
   ·cases h
  ·cases h
structure TabE where
 ok:Nat→Bool
 isP:Nat→Bool
 hcl:Nat→Bool
 lit:Nat→Bool
 perm:Nat→Nat→Option (List Nat)
 keep:Nat→Bool
 isV:Nat→Bool
 givP:Nat→Bool
 givV:Nat→Bool
 givH:Nat→Bool
 givF:Nat→Bool
noncomputable def My:Nat→Tr Blk→Nat→Option (Tr Blk × Nat)
 | 0,H,n=>some (H,n)
 | k+1,H,n=>match n with
  | 0=>none
  | m+1=>match H.pop m with
   | some H'=>My k H' m
   | none=>none
noncomputable def Arv (keep:Bool) (n:Nat):Option (AV × ES)→Option (AV × Tr Blk × Nat × Nat)
 | some (r,σ)=>match keep with
  | true=>some (r,σ.H,σ.hn,σ.cnt)
  | false=>match My (σ.hn - n) σ.H σ.hn with
   | some (H',n')=>some (r,H',n',σ.cnt)
   | none=>none
 | none=>none
noncomputable def Apb:Option (AV × ES)→Option AV
 | some (r,_)=>match okc r with
  | true=>some r
  | false=>none
 | none=>none
noncomputable def givT (G:Giv) (f:Nat) (args:List AV) (H:Tr Blk) (hn cnt:Nat):Option (AV × Tr Blk × Nat × Nat):=
 match G.h f args (H.toL dead hn) cnt with
 | some (r,H',c')=>some (r,Tr.ofL dead H',H'.length,c')
 | none=>none
def Wi (t:TabE) (p v:Nat→List AV→Option AV) (h:Nat→List AV→Tr Blk→Nat→Nat→Option (AV × Tr Blk × Nat × Nat)) (f:Nat):EE:=⟨t.isP,t.isV,p,v,h,t.lit f,t.perm f,t.hcl⟩
noncomputable def Apc:Option (AV × ES)→Option AV
 | some (r,σ)=>match (dB 60 (σ.H.toL dead σ.hn) r).noref with
  | true=>some (dB 60 (σ.H.toL dead σ.hn) r)
  | false=>none
 | none=>none
def PH (P:Program) (t:TabE):Prop:=∀ f fn c,t.ok f=true→P.funcs[f]?=some fn→fn.body=some c→
 (fn.name == "runtime.NumGoroutine")=false∧C7 (fun g=>t.hcl g && !t.isP g) (t.perm f) c=true
theorem Mz:∀ {k:Nat} {H H':Tr Blk} {n n':Nat},Tr.Fit H n→My k H n=some (H',n')→Tr.Fit H' n'∧n'+k=n∧H'.toL dead n'=(H.toL dead n).take n'
 | 0,H,H',n,n',hf,h=>by
  simp only [My,lx16,lx40] at h
  obtain ⟨rfl,rfl⟩:=h
  exact ⟨hf,rfl,by rw [lx118 (by rw [Tr.toL_len]; exact Ax _)]⟩
 | k+1,H,H',n,n',hf,h=>by
  cases n with
  | zero=>simp [My] at h
  | succ m=>
   simp only [My] at h
   split at h
   ·rename_i H1 h1
    obtain ⟨f1,f2,f3⟩:=Mz (Tr.pop_ok dead hf h1).2 h
    refine ⟨f1,by omega,?_⟩
    rw [f3,Tr.toL_pop hf h1,List.take_take,Nat.min_eq_left (by omega)]
   ·cases h
noncomputable def el {α:Type} {β:Type} (x:Option α) (z:β) (f:α→β):β:=Option.rec (motive:=fun _=>β) z f x
noncomputable def bB {β:Type} (b:Bool) (f t:β):β:=Bool.rec (motive:=fun _=>β) f t b
theorem GB {α β:Type} (a:α) (z:β) (f:α→β):el (some a) z f=f a:=rfl
theorem JW {β:Type} (f t:β):bB true f t=t:=rfl
theorem Js {β:Type} (f t:β):bB false f t=f:=rfl
namespace Tr
noncomputable def setK {α R:Type} (x:α) (z:R) (p:Pth):Tr α→(Tr α→R)→R:=
 Pth.rec (motive:=fun _=>Tr α→(Tr α→R)→R) (fun t c=>Tr.rec (motive:=fun _=>R) z (fun _ l r _ _=>c (.node x l r)) t)
  (fun _ ih t c=>Tr.rec (motive:=fun _=>R) z (fun v l r _ _=>ih l (fun l'=>c (.node v l' r))) t)
  (fun _ ih t c=>Tr.rec (motive:=fun _=>R) z (fun v l r _ _=>ih r (fun r'=>c (.node v l r'))) t) p
theorem setK_eq {α R:Type} (x:α) (z:R):∀ (p:Pth) (t:Tr α) (c:Tr α→R),setK x z p t c=el (setP x p t) z c
 | .z,t,c=>by cases t <;> rfl
 | .o p,.nil,c=>rfl
 | .e p,.nil,c=>rfl
 | .o p,.node v l r,c=>by
  show setK x z p l (fun l'=>c (.node v l' r))=_
  rw [setK_eq x z p l]
  show _=el (Option.rec (motive:=fun _=>Option (Tr α)) none (fun l'=>some (.node v l' r)) (setP x p l)) z c
  cases setP x p l <;> rfl
 | .e p,.node v l r,c=>by
  show setK x z p r (fun r'=>c (.node v l r'))=_
  rw [setK_eq x z p r]
  show _=el (Option.rec (motive:=fun _=>Option (Tr α)) none (fun r'=>some (.node v l r')) (setP x p r)) z c
  cases setP x p r <;> rfl
end Tr
structure VFn where
 get:ES→AV
noncomputable def evC (x:Operand):VFn:=
 match x with
 | .tmp t=>⟨fun σ=>bB (Nat.blt t σ.n) .un (Tr.getP .un (pth t) σ.T)⟩
 | .const v=>⟨fun _=>KY v⟩
 | .global _=>⟨fun _=>.jk⟩
 | .func f=>⟨fun _=>.fn f []⟩
theorem Arw (x:Operand) (σ:ES):(evC x).get σ=N2 σ x:=by
 cases x with
 | tmp t=>simp only [evC,N2]; cases Nat.blt t σ.n <;> rfl
 | _=>rfl
noncomputable def NC (σ:ES) (x:Operand):AV:=(evC x).get σ
theorem Fg (σ:ES):NC σ=N2 σ:=funext fun x=>Arw x σ
noncomputable def gK (σ:ES) (id:Nat):Option Blk:=bB (Nat.blt id σ.hn) none (some (Tr.getN dead σ.H id))
theorem Z4 (σ:ES):gK σ=gE σ:=by
 funext id
 simp only [gK,gE]
 cases Nat.blt id σ.hn <;> rfl
noncomputable def lbK (σ:ES) (id ver:Nat):Option Blk:=
 el (gK σ id) none (fun B=>bB (B.live && Nat.beq B.ver ver) none (some B))
theorem Arx (σ:ES):lbK σ=IS (gE σ):=by
 funext id ver
 simp only [lbK,IS,Z4]
 cases gE σ id with
 | none=>rfl
 | some B=>
  simp only [GB]
  cases B.live && Nat.beq B.ver ver <;> rfl
structure PFn where
 put:{R:Type}→AV→ES→R→(ES→R)→R
noncomputable def Iz (d:Option Nat):PFn:=
 match d with
 | none=>⟨fun _ σ _ c=>c σ⟩
 | some d=>⟨fun {R} v σ z c=>ES.rec (motive:=fun _=>R) (fun T n H hn cnt=>Tr.setK v z (pth d) T (fun T'=>c ⟨T',n,H,hn,cnt⟩)) σ⟩
noncomputable def fN {R:Type} (n:Nat) (c:Nat→R):R:=Nat.rec (motive:=fun _=>R) (c 0) (fun k _=>c (Nat.succ k)) n
theorem Ah0 {R:Type} (n:Nat) (c:Nat→R):fN n c=c n:=by cases n <;> rfl
noncomputable def fT {α R:Type} (t:Tr α) (c:Tr α→R):R:=Tr.rec (motive:=fun _=>R) (c .nil) (fun v l r _ _=>c (.node v l r)) t
theorem Apd {α R:Type} (t:Tr α) (c:Tr α→R):fT t c=c t:=by cases t <;> rfl
def Ary (σ:ES) (d:Option Nat) (v:AV):Option ES:=
 match d with
 | none=>some σ
 | some d=>match σ.T.set d v with
  | some T'=>some ⟨T',σ.n,σ.H,σ.hn,σ.cnt⟩
  | none=>none
theorem Ah1 (a:AV):frc a=some a:=by
 unfold frc
 repeat' split
 all_goals first | rfl | simp_all
theorem Ala (σ:ES) (d:Option Nat) (v:AV):LL σ d v=Ary σ d v:=by
 unfold LL Ary
 cases d with
 | none=>rfl
 | some d=>simp only [Ah1,Tr.setP_eq] <;> rfl
theorem Ht {R:Type} (d:Option Nat) (v:AV) (σ:ES) (z:R) (c:ES→R):(Iz d).put v σ z c=el (LL σ d v) z c:=by
 rw [Ala]
 cases d with
 | none=>rfl
 | some d=>
  simp only [Iz,Ary,Tr.setK_eq,Tr.setP_eq]
  cases σ.T.set d v <;> rfl
def asI (u:AV):Option Int:=
 match u with
 | .sc (.int .i64 n)=>some n
 | _=>none
def asB (u:AV):Option Int:=
 match u with
 | .sc (.int .u8 n)=>some n
 | _=>none
def asS (u:AV):Option (List UInt8):=
 match u with
 | .sc (.string b)=>some b.data.toList
 | _=>none
def asN (n:Int):Option Nat:=
 match n with
 | .ofNat m=>some m
 | _=>none
noncomputable def mkN (m:Nat):Option AV:=
 Nat.rec (motive:=fun _=>Option AV) (some (.sc (.int .i64 (.ofNat 0)))) (fun k _=>some (.sc (.int .i64 (.ofNat (Nat.succ k))))) m
theorem Tb (m:Nat):mkN m=some (.sc (.int .i64 (.ofNat m))):=by cases m <;> rfl
structure BFn where
 run:AV→AV→Option AV
noncomputable def XA (f:Int→Int→Bool):BFn:=
 ⟨fun u v=>el (asI u) (el (asB u) none (fun a=>el (asB v) none (fun b=>some (.sc (.bool (f a b)))))) (fun a=>el (asI v) none (fun b=>some (.sc (.bool (f a b)))))⟩
noncomputable def Axb (f:List UInt8→List UInt8→Bool) (g:BFn):BFn:=
 ⟨fun u v=>el (asS u) (g.run u v) (fun a=>el (asS v) none (fun b=>some (.sc (.bool (f a b)))))⟩
noncomputable def qC (op:BinOp):BFn:=
 match op with
 | .lss=>XA fun a b=>not (leI b a)
 | .leq=>XA fun a b=>leI a b
 | .gtr=>XA fun a b=>not (leI a b)
 | .geq=>XA fun a b=>leI b a
 | .eql=>Axb Xs (XA eqI)
 | .neq=>Axb (fun a b=>not (Xs a b)) (XA fun a b=>not (eqI a b))
 | .add=>⟨fun u v=>el (asI u) none (fun a=>el (asI v) none (fun b=>el (asN a) none (fun m=>el (asN b) none (fun n=>bB (Nat.blt (Nat.add m n) 9223372036854775808) none (mkN (Nat.add m n))))))⟩
 | .sub=>⟨fun u v=>el (asI u) none (fun a=>el (asI v) none (fun b=>el (asN a) none (fun m=>el (asN b) none (fun n=>bB (Nat.blt m 9223372036854775808 && Nat.ble n m) none (mkN (Nat.sub m n))))))⟩
 | _=>⟨fun _ _=>none⟩
theorem Jt {u:AV} {n:Int} (h:asI u=some n):u=.sc (.int .i64 n):=by
 unfold asI at h
 split at h
 ·cases h; rfl
 ·cases h
theorem Ah2 {u:AV} {n:Int} (h:asB u=some n):u=.sc (.int .u8 n):=by
 unfold asB at h
 split at h
 ·cases h; rfl
 ·cases h
theorem PI {u:AV} {l:List UInt8} (h:asS u=some l):∃ b:ByteArray,u=.sc (.string b)∧b.data.toList=l:=by
 unfold asS at h
 split at h
 ·rename_i b; cases h; exact ⟨b,rfl,rfl⟩
 ·cases h
theorem Ju {n:Int} {m:Nat} (h:asN n=some m):n=.ofNat m:=by
 unfold asN at h
 split at h
 ·cases h; rfl
 ·cases h
theorem Fh {α β:Type} {x:Option α} {z:Option β} {f:α→Option β} {r:β} (h:el x z f=some r):(x=none∧z=some r)∨∃ a,x=some a∧f a=some r:=by
 cases x with
 | none=>exact .inl ⟨rfl,h⟩
 | some a=>exact .inr ⟨a,rfl,h⟩
theorem C4 {α β:Type} {x:Option α} {f:α→Option β} {r:β} (h:el x none f=some r):∃ a,x=some a∧f a=some r:=by
 cases x with
 | none=>cases h
 | some a=>exact ⟨a,rfl,h⟩
theorem PJ {β:Type} {b:Bool} {t:Option β} {r:β} (h:bB b none t=some r):b=true∧t=some r:=by
 cases b with
 | false=>cases h
 | true=>exact ⟨rfl,h⟩
theorem JX {f:Int→Int→Bool} {op:BinOp} (hf:∀ k a b,qI op k a b=some (.sc (.bool (f a b)))) {u v r:AV} (h:(XA f).run u v=some r):Xt op u v=some r:=by
 rcases Fh h with ⟨_,h⟩ | ⟨a,ha,h⟩
 ·obtain ⟨a,ha,h⟩:=C4 h
  obtain ⟨b,hb,h⟩:=C4 h
  rw [Ah2 ha,Ah2 hb,←h]
  exact hf .u8 a b
 ·obtain ⟨b,hb,h⟩:=C4 h
  rw [Jt ha,Jt hb,←h]
  exact hf .i64 a b
theorem Ape {op:BinOp} {u v r:AV} (h:(qC op).run u v=some r):Xt op u v=some r:=by
 cases op
 case lss=>exact JX (op:=.lss) (fun k a b=>rfl) h
 case leq=>exact JX (op:=.leq) (fun k a b=>rfl) h
 case gtr=>exact JX (op:=.gtr) (fun k a b=>rfl) h
 case geq=>exact JX (op:=.geq) (fun k a b=>rfl) h
 case eql=>
  rcases Fh h with ⟨_,h⟩ | ⟨a,ha,h⟩
  ·exact JX (op:=.eql) (fun k a b=>rfl) h
  ·exact Aoc
 case neq=>
  rcases Fh h with ⟨_,h⟩ | ⟨a,ha,h⟩
  ·exact JX (op:=.neq) (fun k a b=>rfl) h
  ·exact Aoc
 case add=>
  obtain ⟨a,ha,h⟩:=C4 h
  obtain ⟨b,hb,h⟩:=C4 h
  obtain ⟨m,hm,h⟩:=C4 h
  obtain ⟨n,hn,h⟩:=C4 h
  obtain ⟨hc,h5⟩:=PJ h
  rw [Tb] at h5
  have e1:=Ju hm
  have e2:=Ju hn
  subst e1 e2
  cases h5
  rw [Jt ha,Jt hb]
  show (match Nat.blt (Nat.add m n) 9223372036854775808 with | true=>_ | false=>none)=_
  rw [hc]
 case sub=>
  obtain ⟨a,ha,h⟩:=C4 h
  obtain ⟨b,hb,h⟩:=C4 h
  obtain ⟨m,hm,h⟩:=C4 h
  obtain ⟨n,hn,h⟩:=C4 h
  obtain ⟨hc,h5⟩:=PJ h
  rw [Tb] at h5
  have e1:=Ju hm
  have e2:=Ju hn
  subst e1 e2
  cases h5
  rw [Jt ha,Jt hb]
  show (match Nat.blt m 9223372036854775808 && Nat.ble n m with | true=>_ | false=>none)=_
  rw [hc]
 all_goals cases h
def Jv (P:Program) (t:TypeId):Bool:=
 match P.underlying t with
 | some .string=>match AY P t with
  | some d=>d.el.isNone && d.len.isNone
  | none=>false
 | _=>false
theorem MB {P:Program} {t:TypeId} (h:Jv P t=true):P.underlying t=some .string∧∃ d,AY P t=some d∧d.el=none∧d.len=none:=by
 unfold Jv at h
 split at h
 ·rename_i hu
  split at h
  ·rename_i d hd
   simp only [AH,Option.isNone_iff_eq_none] at h
   exact ⟨hu,d,hd,h.1,h.2⟩
  ·cases h
 ·cases h
noncomputable def As0 (l:List UInt8):Nat→Option UInt8:=
 List.rec (motive:=fun _=>Nat→Option UInt8) (fun _=>none) (fun b _ ih n=>Nat.rec (motive:=fun _=>Option UInt8) (some b) (fun k _=>ih k) n) l
theorem Z5:∀ (l:List UInt8) (n:Nat),As0 l n=l[n]?
 | [],n=>by cases n <;> rfl
 | b::l,0=>rfl
 | b::l,n+1=>by
  show As0 l n=_
  rw [Z5 l n]
  simp
noncomputable def mkU (m:Nat):Option AV:=
 Nat.rec (motive:=fun _=>Option AV) (some (.sc (.int .u8 (.ofNat 0)))) (fun k _=>some (.sc (.int .u8 (.ofNat (Nat.succ k))))) m
theorem Ah3 (m:Nat):mkU m=some (.sc (.int .u8 (.ofNat m))):=by cases m <;> rfl
noncomputable def Axc (u v:AV):Option AV:=
 el (asS u) none fun l=>el (asI v) none fun n=>el (asN n) none fun m=>el (As0 l m) none fun b=>mkU b.toNat
theorem Alb {P:Program} {s:St} {t:TypeId} {x i:Operand} {r:AV} (ht:Jv P t=true) (h:Axc (ev s.T x) (ev s.T i)=some r):Av P s (.index t x i)=some r:=by
 obtain ⟨l,hl,g1⟩:=C4 h
 obtain ⟨n,hn,g2⟩:=C4 g1
 obtain ⟨m,hm,g3⟩:=C4 g2
 obtain ⟨b,hb,g4⟩:=C4 g3
 rw [Ah3] at g4
 rw [Z5] at hb
 obtain ⟨bs,hbs,rfl⟩:=PI hl
 have hi:=Jt hn
 have e:=Ju hm
 subst e
 obtain ⟨hu,d,hd,h1,h2⟩:=MB ht
 have key:Bp P (Instr.index t (.string bs) (.int .i64 (.ofNat m)))=some (.int .u8 b.toNat):=by
  unfold Bp Instr.index
  simp only [Ai,asIntOf,Ak,lx17,Ar,hu]
  have h0:(0:Int)≤Int.ofNat m:=Nv m
  rw [if_pos h0]
  have e2:(Int.ofNat m).toNat=m:=rfl
  rw [e2]
  have e3:bs[m]?=some b:=by
   have hlt:m < bs.data.toList.length:=(lx22.1 hb).1
   have hlt':m < bs.size:=hlt
   have h5:=(lx22.1 hb).2
   rw [getElem?_pos bs m hlt']
   rw [←h5]
   rfl
  rw [e3]
  rfl
 simp only [Av,hd,h1,h2,hbs,hi,BZ,key]
 rw [←g4]
 rfl
noncomputable def Ah4 (φ:Operand→AV) (x:Option Operand) (dflt:Nat):Option Nat:=
 match x with
 | none=>some dflt
 | some x=>el (asI (φ x)) none asN
noncomputable def Axd (φ:Operand→AV) (u:AV) (lo hi:Option Operand):Option AV:=
 el (asS u) none fun l=>el (Ah4 φ hi l.length) none fun b=>el (Ah4 φ lo 0) none fun a=>
  bB (Nat.ble b l.length && Nat.ble a b) none (some (.sc (.string ⟨⟨(l.drop a).take (Nat.sub b a)⟩⟩)))
theorem Abv {φ:Operand→AV} {d a:Nat} (h:Ah4 φ none d=some a):a=d:=by cases h; rfl
theorem Abw {φ:Operand→AV} {x:Operand} {d a:Nat} (h:Ah4 φ (some x) d=some a):φ x=.sc (.int .i64 (.ofNat a)):=by
 obtain ⟨n,hn,g1⟩:=C4 h
 rw [Jt hn,Ju g1]
theorem Alc {P:Program} {s:St} {t:TypeId} {x:Operand} {lo hi:Option Operand} {r:AV} (ht:Jv P t=true) (h:Axd (ev s.T) (ev s.T x) lo hi=some r):Av P s (.slice t x lo hi none)=some r:=by
 obtain ⟨l,hl,g1⟩:=C4 h
 obtain ⟨b,hb,g2⟩:=C4 g1
 obtain ⟨a,ha,g3⟩:=C4 g2
 obtain ⟨hc,g4⟩:=PJ g3
 simp only [AH] at hc
 have c1:=Nat.le_of_ble_eq_true hc.1
 have c2:=Nat.le_of_ble_eq_true hc.2
 obtain ⟨bs,hbs,rfl⟩:=PI hl
 obtain ⟨hu,d,hd,h1,h2⟩:=MB ht
 have c1:b≤bs.size:=c1
 have De:∀ {y:Option Operand} {dflt c:Nat},Ah4 (ev s.T) y dflt=some c→∃ v,Fp s.T y=some v∧((y=none∧v=none∧c=dflt)∨v=some (.int .i64 (.ofNat c))):=by
  intro y dflt c hy
  cases y with
  | none=>exact ⟨none,rfl,.inl ⟨rfl,rfl,Abv hy⟩⟩
  | some y=>exact ⟨some (.int .i64 (.ofNat c)),by simp only [Fp,Abw hy,BZ],.inr rfl⟩
 obtain ⟨vh,kh,kh2⟩:=De hb
 obtain ⟨vl,kl,kl2⟩:=De ha
 have bnd:∀ (c n:Nat) (code:BoundsCode),c≤n→rd P (Instr.sliceBound (.int .i64 (c:Int)) n code) default=some c:=by
  intro c n code hcn
  have:=(Ou (P:=P) (w:=default) (n:=Int.ofNat c) (hi:=n) (hi':=n) (r:=c) (by
   unfold Oo
   have h0:(0:Int)≤Int.ofNat c:=Nv c
   have h1:Int.ofNat c≤(n:Int):=Int.ofNat_le.2 hcn
   rw [if_pos ⟨h0,h1⟩]; rfl) (Ax n) .i64 code).1
  exact this
 have key:Bp P (Instr.sliceAt t (.string bs) vl vh none)=some (.string (bs.extract a b)):=by
  unfold Bp Instr.sliceAt
  simp only [Ai,Ar,hu,lx17]
  unfold Instr.slice
  simp only [Ai,Ar,hu,lx17]
  have hb2:rd P (Instr.sliceBounds false bs.size bs.size vl vh none) default=some (a,b,bs.size):=by
   unfold Instr.sliceBounds
   rcases kh2 with ⟨_,rfl,hbd⟩ | rfl
   ·have hbd:b=bs.size:=hbd
    subst hbd
    rcases kl2 with ⟨_,rfl,rfl⟩ | rfl
    ·simp [Ai,Ak]
    ·simp [Ai,Ak,Ft,bnd a _ .sliceB c2]
   ·rcases kl2 with ⟨_,rfl,rfl⟩ | rfl
    ·simp [Ai,Ak,Ft,bnd b _ .sliceAlen c1]
    ·simp [Ai,Ak,Ft,bnd b _ .sliceAlen c1,bnd a _ .sliceB c2]
  simp only [lx9,Em,lx7,Ai,hb2,lx17,Ak]
 simp only [Av,hd,h1,h2,hbs,BZ,kl,kh,key,show Fp s.T none=some none from rfl]
 rw [←g4]
 have e:bs.extract a b=⟨⟨(bs.data.toList.drop a).take (Nat.sub b a)⟩⟩:=by
  have e1:(bs.extract a b).data=bs.data.extract a b:=Br
  have e2:(bs.data.extract a b).toList=(bs.data.toList.drop a).take (b - a):=Br
  cases hx:bs.extract a b with
  | mk dd=>
   rw [hx] at e1
   simp only at e1
   subst e1
   cases hy:bs.data.extract a b with
   | mk ll=>
    rw [hy] at e2
    simp only at e2
    rw [e2]
    rfl
 rw [e]
 rfl
def asC (u:AV):Option Int:=
 match u with
 | .sc (.int _ n)=>some n
 | _=>none
noncomputable def Apf (u:AV):Option AV:=el (asC u) none fun n=>el (asN n) none fun m=>bB (Nat.blt m 9223372036854775808) none (mkN m)
noncomputable def Axe (u:AV):Option AV:=el (asC u) none fun n=>el (asN n) none fun m=>bB (Nat.blt m 256) none (mkU m)
theorem Ah5 {u:AV} {n:Int} (h:asC u=some n):∃ k,u=.sc (.int k n):=by
 unfold asC at h
 split at h
 ·rename_i k n; cases h; exact ⟨k,rfl⟩
 ·cases h
theorem Ald {n:Int} (h:0≤n∧n≤255):IntKind.u8.wrap n=n:=by
 simp only [IntKind.wrap,IntKind.bits,IntKind.signed]
 simp
 omega
theorem Ah6 {P:Program} {src dst:TypeId} {ks:IntKind} {u r:AV} (h1:P.underlying src=some (.int ks)) (h2:P.underlying dst=some (.int .i64)) (h:Apf u=some r):cvX P src dst u (P.underlying src) (P.underlying dst)=some r:=by
 obtain ⟨n,hn,g1⟩:=C4 h
 obtain ⟨m,hm,g2⟩:=C4 g1
 obtain ⟨hc,g3⟩:=PJ g2
 obtain ⟨k,rfl⟩:=Ah5 hn
 have e:=Ju hm
 subst e
 rw [Tb] at g3
 rw [h1,h2,NN,←g3,S5]
 rw [Nat.blt_eq] at hc
 have:Int.ofNat m=(m:Int):=rfl
 rw [this]; omega
theorem Ale {P:Program} {src dst:TypeId} {ks:IntKind} {u r:AV} (h1:P.underlying src=some (.int ks)) (h2:P.underlying dst=some (.int .u8)) (h:Axe u=some r):cvX P src dst u (P.underlying src) (P.underlying dst)=some r:=by
 obtain ⟨n,hn,g1⟩:=C4 h
 obtain ⟨m,hm,g2⟩:=C4 g1
 obtain ⟨hc,g3⟩:=PJ g2
 obtain ⟨k,rfl⟩:=Ah5 hn
 have e:=Ju hm
 subst e
 rw [Ah3] at g3
 rw [h1,h2,NN,←g3,Ald]
 rw [Nat.blt_eq] at hc
 have:Int.ofNat m=(m:Int):=rfl
 rw [this]; omega
noncomputable def Axf (u:AV):Option AV:=el (asS u) none fun l=>mkN l.length
theorem Alf {P:Program} {s:St} {t:TypeId} {x:Operand} {args:Array Operand} {ats:Array TypeId} {r:AV} (ha:args=#[x]) (hat:ats=#[t]) (ht:Jv P t=true) (h:Axf (ev s.T x)=some r):
  Av P s (.call ⟨.builtin .len,args,ats⟩)=some r:=by
 subst ha hat
 obtain ⟨l,hl,g1⟩:=C4 h
 rw [Tb] at g1
 obtain ⟨bs,hbs,rfl⟩:=PI hl
 obtain ⟨hu,d,hd,h1,h2⟩:=MB ht
 have key:Bp P (Builtin.len_ #[t] 0 #[.string bs])=some (.int .i64 (bs.size:Int)):=by
  unfold Bp Builtin.len_
  simp only [lx39,lx45,Ai,Ar,hu,lx17]
  rfl
 simp only [Av,hd,h1,h2,hbs,BZ,key]
 rw [←g1]
 rfl
structure WFn where
 run:ES→Option AV
noncomputable def MC (P:Program) (o:Op):WFn:=⟨fun σ=>(Ago P o).run (NC σ) (lbK σ)⟩
noncomputable def Alg (P:Program) (o:Op):WFn:=
 match o with
 | .binOp op t x y ty=>⟨fun σ=>el ((qC op).run (NC σ x) (NC σ y)) ((MC P o).run σ) some⟩
 | .move x=>⟨fun σ=>some (NC σ x)⟩
 | .assign x=>⟨fun σ=>some (NC σ x)⟩
 | .index t x i=>match Jv P t with
  | true=>⟨fun σ=>el (Axc (NC σ x) (NC σ i)) ((MC P o).run σ) some⟩
  | false=>MC P o
 | .slice t x lo hi none=>match Jv P t with
  | true=>⟨fun σ=>el (Axd (NC σ) (NC σ x) lo hi) ((MC P o).run σ) some⟩
  | false=>MC P o
 | .convert src dst x=>match P.underlying src with
  | some (.int ks)=>match P.underlying dst with
   | some (.int .i64)=>⟨fun σ=>el (Apf (NC σ x)) ((MC P o).run σ) some⟩
   | some (.int .u8)=>⟨fun σ=>el (Axe (NC σ x)) ((MC P o).run σ) some⟩
   | _=>MC P o
  | _=>MC P o
 | .call ⟨.builtin .len,⟨[x]⟩,⟨[t]⟩⟩=>match Jv P t with
  | true=>⟨fun σ=>el (Axf (NC σ x)) ((MC P o).run σ) some⟩
  | false=>MC P o
 | _=>MC P o
theorem Alh {P:Program} {o:Op} {σ:ES} {v:AV} (h:(Alg P o).run σ=some v):Av P σ.toS o=some v:=by
 have hall:(MC P o).run σ=some v→Av P σ.toS o=some v:=by
  intro h
  have h:(Ago P o).run (NC σ) (lbK σ)=some v:=h
  rw [Agp,Fg,Arx,Dj,PD] at h
  exact PC h
 unfold Alg at h
 split at h
 ·rename_i op t x y ty
  rcases Fh h with ⟨_,h⟩ | ⟨r,hr,h⟩
  ·exact hall h
  ·cases h
   have:=ZN (P:=P) t x y (Ape hr)
   rw [Fg,Dj] at this
   rw [Io,RR _ (by have:=Ape hr; rw [Fg,Dj] at this; exact this)]
   exact this
 ·refine hall ?_; exact h
 ·refine hall ?_; exact h
 ·split at h
  ·rename_i ht
   rcases Fh h with ⟨_,h⟩ | ⟨r,hr,h⟩
   ·exact hall h
   ·cases h
    rw [Fg,Dj] at hr
    exact Alb ht hr
  ·exact hall h
 ·split at h
  ·rename_i ht
   rcases Fh h with ⟨_,h⟩ | ⟨r,hr,h⟩
   ·exact hall h
   ·cases h
    rw [Fg,Dj] at hr
    exact Alc ht hr
  ·exact hall h
 ·split at h
  ·rename_i h1
   split at h
   ·rename_i h2
    rcases Fh h with ⟨_,h⟩ | ⟨r,hr,h⟩
    ·exact hall h
    ·cases h
     rw [Fg,Dj] at hr
     rw [Fc]
     exact Ah6 h1 h2 hr
   ·rename_i h2
    rcases Fh h with ⟨_,h⟩ | ⟨r,hr,h⟩
    ·exact hall h
    ·cases h
     rw [Fg,Dj] at hr
     rw [Fc]
     exact Ale h1 h2 hr
   ·exact hall h
  ·exact hall h
 ·split at h
  ·rename_i ht
   rcases Fh h with ⟨_,h⟩ | ⟨r,hr,h⟩
   ·exact hall h
   ·cases h
    rw [Fg,Dj] at hr
    exact Alf rfl rfl ht hr
  ·exact hall h
 ·exact hall h
structure OFn where
 run:{R:Type}→Bool→EE→ES→R→(ES→R)→R
def OFn.Ok (P:Program) (f:OFn) (s:Bool→Env→St→Option St):Prop:=
 ∀ (R:Type) (lt:Bool) (E:EE) (σ:ES) (z r:R) (c:ES→R),E.Ok→σ.Inv→f.run lt E σ z c=r→r=z∨∃ σ',σ'.Inv∧σ'.n=σ.n∧s lt E.env σ.toS=some σ'.toS∧c σ'=r
noncomputable def hpK {R:Type} (P:Program) (o:Op) (p:PFn) (σ:ES) (z:R) (c:ES→R):R:=
 el ((Agq P o).run (NC σ) (gK σ) σ.hn σ.cnt) z fun q=>ES.rec (motive:=fun _=>R) (fun T n H hn _=>
  el (Xz q.2.1 H hn) z fun H1=>
   HA.rec (motive:=fun _=>R)
    (fun b=>el (H1.push (LI q.2.1 hn) b) z fun H2=>fN (LI q.2.1 hn+1) fun m=>fN q.2.2.2 fun cnt=>fT H2 fun H2=>p.put q.1 ⟨T,n,H2,m,cnt⟩ z c)
    (fun id b=>el (Tr.setN b H1 id) z fun H2=>fN (LI q.2.1 hn) fun m=>fN q.2.2.2 fun cnt=>fT H2 fun H2=>p.put q.1 ⟨T,n,H2,m,cnt⟩ z c) q.2.2.1) σ
theorem Ah7 {R:Type} (P:Program) (o:Op) (dst:Option Nat) (σ:ES) (z:R) (c:ES→R):hpK P o (Iz dst) σ z c=el (Wd P σ o dst) z c:=by
 unfold hpK Wd
 rw [V6,Fg,Z4]
 cases G7 P (N2 σ) (gE σ) σ.hn σ.cnt o with
 | none=>rfl
 | some q=>
  obtain ⟨v,p,a,k⟩:=q
  obtain ⟨T,n,H,hn,cnt⟩:=σ
  simp only [GB,Ah0,Apd]
  cases Xz p H hn with
  | none=>rfl
  | some H1=>
   simp only [GB]
   cases a with
   | push b=>
    simp only
    cases H1.push (LI p hn) b with
    | none=>rfl
    | some H2=>simp only [GB,Ht]
   | put id b=>
    simp only
    cases Tr.setN b H1 id with
    | none=>rfl
    | some H2=>simp only [GB,Ht]
noncomputable def lpK {R:Type} (P:Program) (o:Op) (p:PFn) (σ:ES) (z:R) (c:ES→R):R:=
 el ((Agq P o).run (NC σ) (gK σ) σ.hn σ.cnt) z fun q=>
  bB q.2.1 (HA.rec (motive:=fun _=>R) (fun b=>bB (norefs b.els) z (ES.rec (motive:=fun _=>R) (fun T n H hn cnt=>fN (cnt+1) fun m=>p.put (.vw false b.els) ⟨T,n,H,hn,m⟩ z c) σ)) (fun _ _=>z) q.2.2.1) z
theorem As1 {R:Type} (P:Program) (o:Op) (dst:Option Nat) (σ:ES) (z:R) (c:ES→R):lpK P o (Iz dst) σ z c=el (Agv P σ o dst) z c:=by
 unfold lpK Agv
 rw [V6,Fg,Z4]
 cases G7 P (N2 σ) (gE σ) σ.hn σ.cnt o with
 | none=>rfl
 | some q=>
  obtain ⟨v,p,a,k⟩:=q
  simp only [GB]
  cases p with
  | true=>rfl
  | false=>
   cases a with
   | put id b=>rfl
   | push b=>
    simp only [Js]
    cases norefs b.els with
    | false=>rfl
    | true=>simp only [JW,Ah0,Ht]
noncomputable def Z6 (args:List Operand) (f:Operand) (p:PFn) {R:Type} (E:EE) (σ:ES) (z:R) (c:ES→R):R:=
 match NC σ f with
 | .fn g caps=>bB (E.isP g)
   (bB (E.isV g)
    (el (E.hc g (args.map (NC σ)++caps) σ.H σ.hn σ.cnt) z fun q=>ES.rec (motive:=fun _=>R) (fun T n _ _ _=>fT q.2.1 fun H=>fN q.2.2.1 fun hn=>fN q.2.2.2 fun cnt=>p.put q.1 ⟨T,n,H,hn,cnt⟩ z c) σ)
    (bB (norefs (args.map (NC σ)++caps)) z (el (E.vc g (args.map (NC σ)++caps)) z fun r=>p.put r σ z c)))
   (el (E.pc g (Kt (gK σ) (args.map (NC σ)++caps))) z fun r=>p.put r σ z c)
 | _=>z
noncomputable def Z7 (P:Program) (o:Oper):OFn:=
 match o.op with
 | .call { callee:=.value f,args,.. }=>⟨fun _ E σ z c=>Z6 args.toList f (Iz o.dst) E σ z c⟩
 | _=>match isHeapOp o.op with
  | true=>match Cu o.op with
   | true=>⟨fun lt _ σ z c=>bB lt (hpK P o.op (Iz o.dst) σ z c) (lpK P o.op (Iz o.dst) σ z c)⟩
   | false=>⟨fun _ _ σ z c=>hpK P o.op (Iz o.dst) σ z c⟩
  | false=>⟨fun _ _ σ z c=>el ((Alg P o.op).run σ) z fun v=>(Iz o.dst).put v σ z c⟩
theorem Wj {α R:Type} {x:Option α} {z r:R} {c:α→R} (h:el x z c=r):r=z∨∃ a,x=some a∧c a=r:=by
 cases x with
 | none=>exact .inl h.symm
 | some a=>exact .inr ⟨a,rfl,h⟩
theorem Wk {R:Type} {b:Bool} {f t r:R} (h:bB b f t=r):(b=false∧f=r)∨(b=true∧t=r):=by
 cases b with
 | false=>exact .inl ⟨rfl,h⟩
 | true=>exact .inr ⟨rfl,h⟩
theorem Ah8 {R:Type} (op:Op) (f:Operand) (args:Array Operand) (ats:Array TypeId) (ho:op=.call ⟨.value f,args,ats⟩) (dst:Option Nat) (E:EE) (σ:ES) (z:R) (c:ES→R):
  Z6 args.toList f (Iz dst) E σ z c=el (match JV (N2 σ) op with | some (g,as)=>Z1 E σ g as dst | none=>none) z c:=by
 subst ho
 unfold Z6 JV
 rw [Fg,Z4]
 simp only
 cases N2 σ f <;> try rfl
 rename_i g caps
 simp only
 unfold Z1
 cases E.isP g with
 | true=>
  simp only [JW]
  cases E.pc g (Kt (gE σ) (List.map (N2 σ) args.toList++caps)) with
  | none=>rfl
  | some r=>simp only [GB,Ht]
 | false=>
  simp only [Js]
  cases E.isV g with
  | true=>
   simp only [JW]
   cases norefs (List.map (N2 σ) args.toList++caps) with
   | false=>rfl
   | true=>
    simp only [JW]
    cases E.vc g (List.map (N2 σ) args.toList++caps) with
    | none=>rfl
    | some r=>simp only [GB,Ht]
  | false=>
   simp only [Js]
   cases E.hc g (List.map (N2 σ) args.toList++caps) σ.H σ.hn σ.cnt with
   | none=>rfl
   | some q=>simp only [GB,Apd,Ah0,Ht]
theorem Wl (P:Program) (o:Oper):(Z7 P o).Ok P (fun lt E s=>Ku P E s o lt):=by
 intro R lt E σ z r c hE hi h
 have viaE:∀ lt,el (Nq P E σ o lt) z c=r→r=z∨∃ σ',σ'.Inv∧σ'.n=σ.n∧Ku P E.env σ.toS o lt=some σ'.toS∧c σ'=r:=by
  intro lt h
  rcases Wj h with h | ⟨σ',h1,h2⟩
  ·exact .inl h
  ·obtain ⟨q1,q2,q3⟩:=PF hE hi h1
   exact .inr ⟨σ',q1,q3,q2,h2⟩
 have rest:B9 o.op=false→(match isHeapOp o.op with
   | true=>match Cu o.op with
    | true=>(⟨fun lt _ σ z c=>bB lt (hpK P o.op (Iz o.dst) σ z c) (lpK P o.op (Iz o.dst) σ z c)⟩:OFn)
    | false=>⟨fun _ _ σ z c=>hpK P o.op (Iz o.dst) σ z c⟩
   | false=>⟨fun _ _ σ z c=>el ((Alg P o.op).run σ) z fun v=>(Iz o.dst).put v σ z c⟩).run lt E σ z c=r→
   r=z∨∃ σ',σ'.Inv∧σ'.n=σ.n∧Ku P E.env σ.toS o lt=some σ'.toS∧c σ'=r:=by
  intro hcall h
  cases hh:isHeapOp o.op with
  | true=>
   rw [hh] at h
   simp only at h
   cases hl:Cu o.op with
   | true=>
    rw [hl] at h
    simp only at h
    refine viaE lt ?_
    unfold Nq
    rw [hcall,hh,hl]
    simp only [Ol]
    cases lt with
    | true=>rw [JW,As1] at h; exact h
    | false=>rw [Js,Ah7] at h; exact h
   | false=>
    rw [hl] at h
    simp only at h
    refine viaE lt ?_
    unfold Nq
    rw [hcall,hh,hl]
    simp only [MS]
    rw [Ah7] at h
    exact h
  | false=>
   rw [hh] at h
   simp only at h
   rcases Wj h with h | ⟨v,hv,h⟩
   ·exact .inl h
   ·have hv:=Alh hv
    rw [Ht] at h
    rcases Wj h with h | ⟨σ',h1,h2⟩
    ·exact .inl h
    ·obtain ⟨q1,q2,q3,_⟩:=Ff hi h1
     refine .inr ⟨σ',q1,q3,?_,h2⟩
     have hl:(lt && Cu o.op)=false:=by
      cases hq:Cu o.op with
      | false=>rw [MS]
      | true=>rw [(PE hq).1] at hh; cases hh
     have hpure:AP E.env σ.toS o.op=true:=by
      unfold AP
      rw [hcall,if_neg (by decide),hh]; rfl
     unfold Ku
     rw [if_neg (by rw [hl]; decide),if_pos hpure]
     unfold I0
     rw [hcall,if_neg (by decide),hv,lx34,q2]
 unfold Z7 at h
 split at h
 ·rename_i f args ats ho
  have h:Z6 args.toList f (Iz o.dst) E σ z c=r:=h
  rw [Ah8 o.op f args ats ho] at h
  refine viaE lt ?_
  unfold Nq
  rw [show B9 o.op=true by rw [ho]; rfl]
  exact h
 ·rename_i hno
  refine rest ?_ h
  cases hq:B9 o.op with
  | false=>rfl
  | true=>
   exfalso
   unfold B9 at hq
   split at hq
   ·rename_i f args ats ho
    exact hno _ _ _ ho
   ·cases hq
noncomputable def opK (P:Program) (all:Array Oper) (o:Oper):OFn:=
 match o.guard with
 | none=>Z7 P o
 | some (j,want)=>match (all[j]?).bind (·.dst) with
  | some d=>⟨fun _ E σ z c=>match NC σ (.tmp d) with
   | .sc (.bool b)=>bB (b == want) ((Iz o.dst).put .un σ z c) ((Z7 P o).run false E σ z c)
   | .un=>(Iz o.dst).put .un σ z c
   | _=>z⟩
  | none=>⟨fun _ _ σ z c=>(Iz o.dst).put .un σ z c⟩
def opS (P:Program) (all:Array Oper) (o:Oper) (lt:Bool) (E:Env) (s:St):Option St:=Fq lt o (Ad P E all s o) (Ei P s o.op o.dst)
theorem Ah9 (P:Program) (all:Array Oper) (o:Oper):(opK P all o).Ok P (opS P all o):=by
 intro R lt E σ z r c hE hi h
 unfold opK at h
 unfold opS Fq
 cases hg:o.guard with
 | none=>
  rw [hg] at h
  simp only at h
  rcases Wl P o R lt E σ z r c hE hi h with h | ⟨σ',q1,q2,q3,q4⟩
  ·exact .inl h
  ·refine .inr ⟨σ',q1,q2,?_,q4⟩
   rw [←q3]
   unfold Ku Ad
   simp only [hg,Option.isNone_none,Ol]
 | some jw=>
  obtain ⟨j,want⟩:=jw
  have hn:(lt && Cu o.op && (some (j,want)).isNone)=false:=Br
  rw [hn,if_neg (by decide)]
  rw [hg] at h
  simp only at h
  have put:(Iz o.dst).put .un σ z c=r→(Ao all σ.toS j=.un∨∃ b,Ao all σ.toS j=.sc (.bool b)∧¬ b=want)→r=z∨∃ σ',σ'.Inv∧σ'.n=σ.n∧Ad P E.env all σ.toS o=some σ'.toS∧c σ'=r:=by
   intro h hb
   rw [Ht] at h
   rcases Wj h with h | ⟨σ',h1,h2⟩
   ·exact .inl h
   ·obtain ⟨q1,q2,q3,_⟩:=Ff hi h1
    refine .inr ⟨σ',q1,q3,?_,h2⟩
    unfold Ad
    simp only [hg]
    rcases hb with hb | ⟨b,hb,hne⟩
    ·rw [hb]; simp only [q2]
    ·rw [hb]
     simp only [if_neg hne,lx34,q2]
     split <;> rfl
  have gv:Ao all σ.toS j=gvE all σ j:=(Agy all σ j).symm
  cases hd:(all[j]?).bind (·.dst) with
  | none=>
   rw [hd] at h
   simp only at h
   refine put h (.inl ?_)
   rw [gv]
   unfold gvE
   rw [hd]
  | some d=>
   rw [hd] at h
   simp only [Fg] at h
   have gv:Ao all σ.toS j=N2 σ (.tmp d):=by
    rw [gv]
    unfold gvE
    rw [hd]
   split at h
   ·rename_i b hb
    rcases Wk h with ⟨hw,h⟩ | ⟨hw,h⟩
    ·exact put h (.inr ⟨b,by rw [gv,hb],fun e=>by rw [e] at hw; simp at hw⟩)
    ·have hw:b=want:=eq_of_beq hw
     rcases Wl P o R false E σ z r c hE hi h with h | ⟨σ',q1,q2,q3,q4⟩
     ·exact .inl h
     ·refine .inr ⟨σ',q1,q2,?_,q4⟩
      rw [←q3]
      unfold Ku Ad
      simp only [hg,gv,hb,W1,if_pos hw]
      rfl
   ·rename_i hb
    exact put h (.inl (by rw [gv,hb]))
   ·exact .inl h.symm
noncomputable def Aha (P:Program) (all:Array Oper) (l:List Oper):OFn:=
 match l with
 | []=>⟨fun _ _ σ _ c=>c σ⟩
 | o::r=>⟨fun lt E σ z c=>(opK P all o).run lt E σ z fun σ'=>(Aha P all r).run lt E σ' z c⟩
def Ahb (P:Program) (all:Array Oper):List Oper→Bool→Env→St→Option St
 | [],_,_,s=>some s
 | o::r,lt,E,s=>match opS P all o lt E s with
  | some s'=>Ahb P all r lt E s'
  | none=>none
theorem Z8 (P:Program) (all:Array Oper) (E:Env):∀ (l:List Oper) (s:St),Ahb P all l E.lit E s=Fv P E all l s
 | [],s=>rfl
 | o::r,s=>by
  simp only [Ahb,Fv,opS,JH]
  cases Fq E.lit o (Ad P E all s o) (Ei P s o.op o.dst) with
  | none=>rfl
  | some s'=>exact Z8 P all E r s'
theorem Z9 (P:Program) (all:Array Oper):∀ l,(Aha P all l).Ok P (Ahb P all l)
 | []=>fun R lt E σ z r c hE hi h=>.inr ⟨σ,hi,rfl,rfl,h⟩
 | o::l=>fun R lt E σ z r c hE hi h=>by
  have h:(opK P all o).run lt E σ z (fun σ'=>(Aha P all l).run lt E σ' z c)=r:=by
   rw [←h]
   simp only [Aha]
  rcases Ah9 P all o R lt E σ z r _ hE hi h with h | ⟨σ',q1,q2,q3,q4⟩
  ·exact .inl h
  ·rcases Z9 P all l R lt E σ' z r c hE q1 q4 with h | ⟨σ2,k1,k2,k3,k4⟩
   ·exact .inl h
   ·exact .inr ⟨σ2,k1,k2.trans q2,by simp only [Ahb,q3]; exact k3,k4⟩
end Go.SX
