/-
  Lemmas towards ModesPriority (joined texts: SYE).
  Conditions: none.
-/
import Derived.Test.YtdjpkhjaibdogaaGreatL01
import Derived.Test.YtdjpkhjaibdogaaGreatL18
set_option linter.unusedSimpArgs false
set_option linter.unusedVariables false
set_option maxRecDepth 100000
namespace Go.SX
noncomputable def el {α:Type} {β:Type} (x:Option α) (z:β) (f:α→β):β:=Option.rec (motive:=fun _=>β) z f x
noncomputable def bB {β:Type} (b:Bool) (f t:β):β:=Bool.rec (motive:=fun _=>β) f t b
theorem Ars {α β:Type} (z:β) (f:α→β):el none z f=z:=rfl
theorem DQ {α β:Type} (a:α) (z:β) (f:α→β):el (some a) z f=f a:=rfl
theorem Br {β:Type} (f t:β):bB true f t=t:=rfl
theorem Bz {β:Type} (f t:β):bB false f t=f:=rfl
namespace Tr
noncomputable def setK {α R:Type} (x:α) (z:R) (p:Pth):Tr α→(Tr α→R)→R:=
 Pth.rec (motive:=fun _=>Tr α→(Tr α→R)→R) (fun t c=>Tr.rec (motive:=fun _=>R) z (fun _ l r _ _=>c (.node x l r)) t)
  (fun _ ih t c=>Tr.rec (motive:=fun _=>R) z (fun v l r _ _=>ih l (fun l'=>c (.node v l' r))) t)
  (fun _ ih t c=>Tr.rec (motive:=fun _=>R) z (fun v l r _ _=>ih r (fun r'=>c (.node v l r'))) t) p
theorem setK_eq {α R:Type} (x:α) (z:R):∀ (p:Pth) (t:Tr α) (c:Tr α→R),setK x z p t c=el (setP x p t) z c
 | .z,t,c=>by cases t <;> rfl
 | .o p,.nil,c=>rfl
 | .e p,.nil,c=>rfl
 | .o p,.node v l r,c=>by
  show setK x z p l (fun l'=>c (.node v l' r))=_
  rw [setK_eq x z p l]
  show _=el (Option.rec (motive:=fun _=>Option (Tr α)) none (fun l'=>some (.node v l' r)) (setP x p l)) z c
  cases setP x p l <;> rfl
 | .e p,.node v l r,c=>by
  show setK x z p r (fun r'=>c (.node v l r'))=_
  rw [setK_eq x z p r]
  show _=el (Option.rec (motive:=fun _=>Option (Tr α)) none (fun r'=>some (.node v l r')) (setP x p r)) z c
  cases setP x p r <;> rfl
end Tr
structure VFn where
 get:ES→AV
noncomputable def evC (x:Operand):VFn:=
 match x with
 | .tmp t=>⟨fun σ=>bB (Nat.blt t σ.n) .un (Tr.getP .un (pth t) σ.T)⟩
 | .const v=>⟨fun _=>LX v⟩
 | .global _=>⟨fun _=>.jk⟩
 | .func f=>⟨fun _=>.fn f []⟩
theorem Azt (x:Operand) (σ:ES):(evC x).get σ=LY σ x:=by
 cases x with
 | tmp t=>simp only [evC,LY]; cases Nat.blt t σ.n <;> rfl
 | _=>rfl
noncomputable def KR (σ:ES) (x:Operand):AV:=(evC x).get σ
theorem D4 (σ:ES):KR σ=LY σ:=funext fun x=>Azt x σ
noncomputable def gK (σ:ES) (id:Nat):Option Blk:=bB (Nat.blt id σ.hn) none (some (Tr.getN dead σ.H id))
theorem Zg (σ:ES):gK σ=gE σ:=by
 funext id
 simp only [gK,gE]
 cases Nat.blt id σ.hn <;> rfl
noncomputable def lbK (σ:ES) (id ver:Nat):Option Blk:=
 el (gK σ id) none (fun B=>bB (B.live && Nat.beq B.ver ver) none (some B))
theorem Azu (σ:ES):lbK σ=Io (gE σ):=by
 funext id ver
 simp only [lbK,Io,Zg]
 cases gE σ id with
 | none=>rfl
 | some B=>
  simp only [DQ]
  cases B.live && Nat.beq B.ver ver <;> rfl
structure PFn where
 put:{R:Type}→AV→ES→R→(ES→R)→R
noncomputable def Gs (d:Option Nat):PFn:=
 match d with
 | none=>⟨fun _ σ _ c=>c σ⟩
 | some d=>⟨fun {R} v σ z c=>ES.rec (motive:=fun _=>R) (fun T n H hn cnt=>Tr.setK v z (pth d) T (fun T'=>c ⟨T',n,H,hn,cnt⟩)) σ⟩
noncomputable def fN {R:Type} (n:Nat) (c:Nat→R):R:=Nat.rec (motive:=fun _=>R) (c 0) (fun k _=>c (Nat.succ k)) n
theorem An0 {R:Type} (n:Nat) (c:Nat→R):fN n c=c n:=by cases n <;> rfl
noncomputable def fT {α R:Type} (t:Tr α) (c:Tr α→R):R:=Tr.rec (motive:=fun _=>R) (c .nil) (fun v l r _ _=>c (.node v l r)) t
theorem Avp {α R:Type} (t:Tr α) (c:Tr α→R):fT t c=c t:=by cases t <;> rfl
def Azv (σ:ES) (d:Option Nat) (v:AV):Option ES:=
 match d with
 | none=>some σ
 | some d=>match σ.T.set d v with
  | some T'=>some ⟨T',σ.n,σ.H,σ.hn,σ.cnt⟩
  | none=>none
theorem An1 (a:AV):frc a=some a:=by
 unfold frc
 repeat' split
 all_goals first | rfl | simp_all
theorem Art (σ:ES) (d:Option Nat) (v:AV):M1 σ d v=Azv σ d v:=by
 unfold M1 Azv
 cases d with
 | none=>rfl
 | some d=>simp only [An1,Tr.setP_eq] <;> rfl
theorem El {R:Type} (d:Option Nat) (v:AV) (σ:ES) (z:R) (c:ES→R):(Gs d).put v σ z c=el (M1 σ d v) z c:=by
 rw [Art]
 cases d with
 | none=>rfl
 | some d=>
  simp only [Gs,Azv,Tr.setK_eq,Tr.setP_eq]
  cases σ.T.set d v <;> rfl
def asI (u:AV):Option Int:=
 match u with
 | .sc (.int .i64 n)=>some n
 | _=>none
def asB (u:AV):Option Int:=
 match u with
 | .sc (.int .u8 n)=>some n
 | _=>none
def asS (u:AV):Option (List UInt8):=
 match u with
 | .sc (.string b)=>some b.data.toList
 | _=>none
def asN (n:Int):Option Nat:=
 match n with
 | .ofNat m=>some m
 | _=>none
noncomputable def mkN (m:Nat):Option AV:=
 Nat.rec (motive:=fun _=>Option AV) (some (.sc (.int .i64 (.ofNat 0)))) (fun k _=>some (.sc (.int .i64 (.ofNat (Nat.succ k))))) m
theorem VZ (m:Nat):mkN m=some (.sc (.int .i64 (.ofNat m))):=by cases m <;> rfl
structure BFn where
 run:AV→AV→Option AV
noncomputable def Abd (f:Int→Int→Bool):BFn:=
 ⟨fun u v=>el (asI u) (el (asB u) none (fun a=>el (asB v) none (fun b=>some (.sc (.bool (f a b)))))) (fun a=>el (asI v) none (fun b=>some (.sc (.bool (f a b)))))⟩
noncomputable def Bf7 (f:List UInt8→List UInt8→Bool) (g:BFn):BFn:=
 ⟨fun u v=>el (asS u) (g.run u v) (fun a=>el (asS v) none (fun b=>some (.sc (.bool (f a b)))))⟩
noncomputable def qC (op:BinOp):BFn:=
 match op with
 | .lss=>Abd fun a b=>not (leI b a)
 | .leq=>Abd fun a b=>leI a b
 | .gtr=>Abd fun a b=>not (leI a b)
 | .geq=>Abd fun a b=>leI b a
 | .eql=>Bf7 E8 (Abd eqI)
 | .neq=>Bf7 (fun a b=>not (E8 a b)) (Abd fun a b=>not (eqI a b))
 | .add=>⟨fun u v=>el (asI u) none (fun a=>el (asI v) none (fun b=>el (asN a) none (fun m=>el (asN b) none (fun n=>bB (Nat.blt (Nat.add m n) 9223372036854775808) none (mkN (Nat.add m n))))))⟩
 | .sub=>⟨fun u v=>el (asI u) none (fun a=>el (asI v) none (fun b=>el (asN a) none (fun m=>el (asN b) none (fun n=>bB (Nat.blt m 9223372036854775808 && Nat.ble n m) none (mkN (Nat.sub m n))))))⟩
 | _=>⟨fun _ _=>none⟩
theorem J6 {u:AV} {n:Int} (h:asI u=some n):u=.sc (.int .i64 n):=by
 unfold asI at h
 split at h
 ·cases h; rfl
 ·cases h
theorem An2 {u:AV} {n:Int} (h:asB u=some n):u=.sc (.int .u8 n):=by
 unfold asB at h
 split at h
 ·cases h; rfl
 ·cases h
theorem R8 {u:AV} {l:List UInt8} (h:asS u=some l):∃ b:ByteArray,u=.sc (.string b)∧b.data.toList=l:=by
 unfold asS at h
 split at h
 ·rename_i b; cases h; exact ⟨b,rfl,rfl⟩
 ·cases h
theorem J7 {n:Int} {m:Nat} (h:asN n=some m):n=.ofNat m:=by
 unfold asN at h
 split at h
 ·cases h; rfl
 ·cases h
theorem Ec {α β:Type} {x:Option α} {z:Option β} {f:α→Option β} {r:β} (h:el x z f=some r):(x=none∧z=some r)∨∃ a,x=some a∧f a=some r:=by
 cases x with
 | none=>exact .inl ⟨rfl,h⟩
 | some a=>exact .inr ⟨a,rfl,h⟩
theorem CQ {α β:Type} {x:Option α} {f:α→Option β} {r:β} (h:el x none f=some r):∃ a,x=some a∧f a=some r:=by
 cases x with
 | none=>cases h
 | some a=>exact ⟨a,rfl,h⟩
theorem O3 {β:Type} {b:Bool} {t:Option β} {r:β} (h:bB b none t=some r):b=true∧t=some r:=by
 cases b with
 | false=>cases h
 | true=>exact ⟨rfl,h⟩
theorem KA {f:Int→Int→Bool} {op:BinOp} (hf:∀ k a b,qI op k a b=some (.sc (.bool (f a b)))) {u v r:AV} (h:(Abd f).run u v=some r):Aba op u v=some r:=by
 rcases Ec h with ⟨_,h⟩ | ⟨a,ha,h⟩
 ·obtain ⟨a,ha,h⟩:=CQ h
  obtain ⟨b,hb,h⟩:=CQ h
  rw [An2 ha,An2 hb,←h]
  exact hf .u8 a b
 ·obtain ⟨b,hb,h⟩:=CQ h
  rw [J6 ha,J6 hb,←h]
  exact hf .i64 a b
theorem Avq {op:BinOp} {u v r:AV} (h:(qC op).run u v=some r):Aba op u v=some r:=by
 cases op
 case lss=>exact KA (op:=.lss) (fun k a b=>rfl) h
 case leq=>exact KA (op:=.leq) (fun k a b=>rfl) h
 case gtr=>exact KA (op:=.gtr) (fun k a b=>rfl) h
 case geq=>exact KA (op:=.geq) (fun k a b=>rfl) h
 case eql=>
  rcases Ec h with ⟨_,h⟩ | ⟨a,ha,h⟩
  ·exact KA (op:=.eql) (fun k a b=>rfl) h
  ·exact Bdp
 case neq=>
  rcases Ec h with ⟨_,h⟩ | ⟨a,ha,h⟩
  ·exact KA (op:=.neq) (fun k a b=>rfl) h
  ·exact Bdp
 case add=>
  obtain ⟨a,ha,h⟩:=CQ h
  obtain ⟨b,hb,h⟩:=CQ h
  obtain ⟨m,hm,h⟩:=CQ h
  obtain ⟨n,hn,h⟩:=CQ h
  obtain ⟨hc,h5⟩:=O3 h
  rw [VZ] at h5
  have e1:=J7 hm
  have e2:=J7 hn
  subst e1 e2
  cases h5
  rw [J6 ha,J6 hb]
  show (match Nat.blt (Nat.add m n) 9223372036854775808 with | true=>_ | false=>none)=_
  rw [hc]
 case sub=>
  obtain ⟨a,ha,h⟩:=CQ h
  obtain ⟨b,hb,h⟩:=CQ h
  obtain ⟨m,hm,h⟩:=CQ h
  obtain ⟨n,hn,h⟩:=CQ h
  obtain ⟨hc,h5⟩:=O3 h
  rw [VZ] at h5
  have e1:=J7 hm
  have e2:=J7 hn
  subst e1 e2
  cases h5
  rw [J6 ha,J6 hb]
  show (match Nat.blt m 9223372036854775808 && Nat.ble n m with | true=>_ | false=>none)=_
  rw [hc]
 all_goals cases h
def J8 (P:Program) (t:TypeId):Bool:=
 match P.underlying t with
 | some .string=>match AR P t with
  | some d=>d.el.isNone && d.len.isNone
  | none=>false
 | _=>false
theorem N0 {P:Program} {t:TypeId} (h:J8 P t=true):P.underlying t=some .string∧∃ d,AR P t=some d∧d.el=none∧d.len=none:=by
 unfold J8 at h
 split at h
 ·rename_i hu
  split at h
  ·rename_i d hd
   simp only [AH,Option.isNone_iff_eq_none] at h
   exact ⟨hu,d,hd,h.1,h.2⟩
  ·cases h
 ·cases h
noncomputable def Azx (l:List UInt8):Nat→Option UInt8:=
 List.rec (motive:=fun _=>Nat→Option UInt8) (fun _=>none) (fun b _ ih n=>Nat.rec (motive:=fun _=>Option UInt8) (some b) (fun k _=>ih k) n) l
theorem Afa:∀ (l:List UInt8) (n:Nat),Azx l n=l[n]?
 | [],n=>by cases n <;> rfl
 | b::l,0=>rfl
 | b::l,n+1=>by
  show Azx l n=_
  rw [Afa l n]
  simp
noncomputable def mkU (m:Nat):Option AV:=
 Nat.rec (motive:=fun _=>Option AV) (some (.sc (.int .u8 (.ofNat 0)))) (fun k _=>some (.sc (.int .u8 (.ofNat (Nat.succ k))))) m
theorem An3 (m:Nat):mkU m=some (.sc (.int .u8 (.ofNat m))):=by cases m <;> rfl
noncomputable def Bf8 (u v:AV):Option AV:=
 el (asS u) none fun l=>el (asI v) none fun n=>el (asN n) none fun m=>el (Azx l m) none fun b=>mkU b.toNat
theorem Aru {P:Program} {s:St} {t:TypeId} {x i:Operand} {r:AV} (ht:J8 P t=true) (h:Bf8 (ev s.T x) (ev s.T i)=some r):Ay P s (.index t x i)=some r:=by
 obtain ⟨l,hl,g1⟩:=CQ h
 obtain ⟨n,hn,g2⟩:=CQ g1
 obtain ⟨m,hm,g3⟩:=CQ g2
 obtain ⟨b,hb,g4⟩:=CQ g3
 rw [An3] at g4
 rw [Afa] at hb
 obtain ⟨bs,hbs,rfl⟩:=R8 hl
 have hi:=J6 hn
 have e:=J7 hm
 subst e
 obtain ⟨hu,d,hd,h1,h2⟩:=N0 ht
 have key:Bh P (Instr.index t (.string bs) (.int .i64 (.ofNat m)))=some (.int .u8 b.toNat):=by
  unfold Bh Instr.index
  simp only [Ah,asIntOf,Al,lx17,Ar,hu]
  have h0:(0:Int)≤Int.ofNat m:=ND m
  rw [if_pos h0]
  have e2:(Int.ofNat m).toNat=m:=rfl
  rw [e2]
  have e3:bs[m]?=some b:=by
   have hlt:m < bs.data.toList.length:=(lx22.1 hb).1
   have hlt':m < bs.size:=hlt
   have h5:=(lx22.1 hb).2
   rw [getElem?_pos bs m hlt']
   rw [←h5]
   rfl
  rw [e3]
  rfl
 simp only [Ay,hd,h1,h2,hbs,hi,Bp,key]
 rw [←g4]
 rfl
noncomputable def An4 (φ:Operand→AV) (x:Option Operand) (dflt:Nat):Option Nat:=
 match x with
 | none=>some dflt
 | some x=>el (asI (φ x)) none asN
noncomputable def Bf9 (φ:Operand→AV) (u:AV) (lo hi:Option Operand):Option AV:=
 el (asS u) none fun l=>el (An4 φ hi l.length) none fun b=>el (An4 φ lo 0) none fun a=>
  bB (Nat.ble b l.length && Nat.ble a b) none (some (.sc (.string ⟨⟨(l.drop a).take (Nat.sub b a)⟩⟩)))
theorem Ahz {φ:Operand→AV} {d a:Nat} (h:An4 φ none d=some a):a=d:=by cases h; rfl
theorem Ai0 {φ:Operand→AV} {x:Operand} {d a:Nat} (h:An4 φ (some x) d=some a):φ x=.sc (.int .i64 (.ofNat a)):=by
 obtain ⟨n,hn,g1⟩:=CQ h
 rw [J6 hn,J7 g1]
theorem Arv {P:Program} {s:St} {t:TypeId} {x:Operand} {lo hi:Option Operand} {r:AV} (ht:J8 P t=true) (h:Bf9 (ev s.T) (ev s.T x) lo hi=some r):Ay P s (.slice t x lo hi none)=some r:=by
 obtain ⟨l,hl,g1⟩:=CQ h
 obtain ⟨b,hb,g2⟩:=CQ g1
 obtain ⟨a,ha,g3⟩:=CQ g2
 obtain ⟨hc,g4⟩:=O3 g3
 simp only [AH] at hc
 have c1:=Nat.le_of_ble_eq_true hc.1
 have c2:=Nat.le_of_ble_eq_true hc.2
 obtain ⟨bs,hbs,rfl⟩:=R8 hl
 obtain ⟨hu,d,hd,h1,h2⟩:=N0 ht
 have c1:b≤bs.size:=c1
 have C7:∀ {y:Option Operand} {dflt c:Nat},An4 (ev s.T) y dflt=some c→∃ v,D8 s.T y=some v∧((y=none∧v=none∧c=dflt)∨v=some (.int .i64 (.ofNat c))):=by
  intro y dflt c hy
  cases y with
  | none=>exact ⟨none,rfl,.inl ⟨rfl,rfl,Ahz hy⟩⟩
  | some y=>exact ⟨some (.int .i64 (.ofNat c)),by simp only [D8,Ai0 hy,Bp],.inr rfl⟩
 obtain ⟨vh,kh,kh2⟩:=C7 hb
 obtain ⟨vl,kl,kl2⟩:=C7 ha
 have bnd:∀ (c n:Nat) (code:BoundsCode),c≤n→rd P (Instr.sliceBound (.int .i64 (c:Int)) n code) default=some c:=by
  intro c n code hcn
  have:=(Ma (P:=P) (w:=default) (n:=Int.ofNat c) (hi:=n) (hi':=n) (r:=c) (by
   unfold Oz
   have h0:(0:Int)≤Int.ofNat c:=ND c
   have h1:Int.ofNat c≤(n:Int):=Int.ofNat_le.2 hcn
   rw [if_pos ⟨h0,h1⟩]; rfl) (Av n) .i64 code).1
  exact this
 have key:Bh P (Instr.sliceAt t (.string bs) vl vh none)=some (.string (bs.extract a b)):=by
  unfold Bh Instr.sliceAt
  simp only [Ah,Ar,hu,lx17]
  unfold Instr.slice
  simp only [Ah,Ar,hu,lx17]
  have hb2:rd P (Instr.sliceBounds false bs.size bs.size vl vh none) default=some (a,b,bs.size):=by
   unfold Instr.sliceBounds
   rcases kh2 with ⟨_,rfl,hbd⟩ | rfl
   ·have hbd:b=bs.size:=hbd
    subst hbd
    rcases kl2 with ⟨_,rfl,rfl⟩ | rfl
    ·simp [Ah,Al]
    ·simp [Ah,Al,EL,bnd a _ .sliceB c2]
   ·rcases kl2 with ⟨_,rfl,rfl⟩ | rfl
    ·simp [Ah,Al,EL,bnd b _ .sliceAlen c1]
    ·simp [Ah,Al,EL,bnd b _ .sliceAlen c1,bnd a _ .sliceB c2]
  simp only [lx3,DD,lx9,Ah,hb2,lx17,Al]
 simp only [Ay,hd,h1,h2,hbs,Bp,kl,kh,key,show D8 s.T none=some none from rfl]
 rw [←g4]
 have e:bs.extract a b=⟨⟨(bs.data.toList.drop a).take (Nat.sub b a)⟩⟩:=by
  have e1:(bs.extract a b).data=bs.data.extract a b:=AZ
  have e2:(bs.data.extract a b).toList=(bs.data.toList.drop a).take (b - a):=AZ
  cases hx:bs.extract a b with
  | mk dd=>
   rw [hx] at e1
   simp only at e1
   subst e1
   cases hy:bs.data.extract a b with
   | mk ll=>
    rw [hy] at e2
    simp only at e2
    rw [e2]
    rfl
 rw [e]
 rfl
def asC (u:AV):Option Int:=
 match u with
 | .sc (.int _ n)=>some n
 | _=>none
noncomputable def Avr (u:AV):Option AV:=el (asC u) none fun n=>el (asN n) none fun m=>bB (Nat.blt m 9223372036854775808) none (mkN m)
noncomputable def Bfa (u:AV):Option AV:=el (asC u) none fun n=>el (asN n) none fun m=>bB (Nat.blt m 256) none (mkU m)
theorem An5 {u:AV} {n:Int} (h:asC u=some n):∃ k,u=.sc (.int k n):=by
 unfold asC at h
 split at h
 ·rename_i k n; cases h; exact ⟨k,rfl⟩
 ·cases h
theorem I5 {n:Int} (h:0≤n∧n≤255):IntKind.u8.wrap n=n:=by
 simp only [IntKind.wrap,IntKind.bits,IntKind.signed]
 simp
 omega
theorem An6 {P:Program} {src dst:TypeId} {ks:IntKind} {u r:AV} (h1:P.underlying src=some (.int ks)) (h2:P.underlying dst=some (.int .i64)) (h:Avr u=some r):cvX P src dst u (P.underlying src) (P.underlying dst)=some r:=by
 obtain ⟨n,hn,g1⟩:=CQ h
 obtain ⟨m,hm,g2⟩:=CQ g1
 obtain ⟨hc,g3⟩:=O3 g2
 obtain ⟨k,rfl⟩:=An5 hn
 have e:=J7 hm
 subst e
 rw [VZ] at g3
 rw [h1,h2,Pv,←g3,VW]
 rw [Nat.blt_eq] at hc
 have:Int.ofNat m=(m:Int):=rfl
 rw [this]; omega
theorem Arw {P:Program} {src dst:TypeId} {ks:IntKind} {u r:AV} (h1:P.underlying src=some (.int ks)) (h2:P.underlying dst=some (.int .u8)) (h:Bfa u=some r):cvX P src dst u (P.underlying src) (P.underlying dst)=some r:=by
 obtain ⟨n,hn,g1⟩:=CQ h
 obtain ⟨m,hm,g2⟩:=CQ g1
 obtain ⟨hc,g3⟩:=O3 g2
 obtain ⟨k,rfl⟩:=An5 hn
 have e:=J7 hm
 subst e
 rw [An3] at g3
 rw [h1,h2,Pv,←g3,I5]
 rw [Nat.blt_eq] at hc
 have:Int.ofNat m=(m:Int):=rfl
 rw [this]; omega
noncomputable def Bfb (u:AV):Option AV:=el (asS u) none fun l=>mkN l.length
theorem Arx {P:Program} {s:St} {t:TypeId} {x:Operand} {args:Array Operand} {ats:Array TypeId} {r:AV} (ha:args=#[x]) (hat:ats=#[t]) (ht:J8 P t=true) (h:Bfb (ev s.T x)=some r):
  Ay P s (.call ⟨.builtin .len,args,ats⟩)=some r:=by
 subst ha hat
 obtain ⟨l,hl,g1⟩:=CQ h
 rw [VZ] at g1
 obtain ⟨bs,hbs,rfl⟩:=R8 hl
 obtain ⟨hu,d,hd,h1,h2⟩:=N0 ht
 have key:Bh P (Builtin.len_ #[t] 0 #[.string bs])=some (.int .i64 (bs.size:Int)):=by
  unfold Bh Builtin.len_
  simp only [lx39,lx45,Ah,Ar,hu,lx17]
  rfl
 simp only [Ay,hd,h1,h2,hbs,Bp,key]
 rw [←g1]
 rfl
structure WFn where
 run:ES→Option AV
noncomputable def N1 (P:Program) (o:Op):WFn:=⟨fun σ=>(Amq P o).run (KR σ) (lbK σ)⟩
noncomputable def Ai1 (P:Program) (o:Op):WFn:=
 match o with
 | .binOp op t x y ty=>⟨fun σ=>el ((qC op).run (KR σ x) (KR σ y)) ((N1 P o).run σ) some⟩
 | .move x=>⟨fun σ=>some (KR σ x)⟩
 | .assign x=>⟨fun σ=>some (KR σ x)⟩
 | .index t x i=>match J8 P t with
  | true=>⟨fun σ=>el (Bf8 (KR σ x) (KR σ i)) ((N1 P o).run σ) some⟩
  | false=>N1 P o
 | .slice t x lo hi none=>match J8 P t with
  | true=>⟨fun σ=>el (Bf9 (KR σ) (KR σ x) lo hi) ((N1 P o).run σ) some⟩
  | false=>N1 P o
 | .convert src dst x=>match P.underlying src with
  | some (.int ks)=>match P.underlying dst with
   | some (.int .i64)=>⟨fun σ=>el (Avr (KR σ x)) ((N1 P o).run σ) some⟩
   | some (.int .u8)=>⟨fun σ=>el (Bfa (KR σ x)) ((N1 P o).run σ) some⟩
   | _=>N1 P o
  | _=>N1 P o
 | .call ⟨.builtin .len,⟨[x]⟩,⟨[t]⟩⟩=>match J8 P t with
  | true=>⟨fun σ=>el (Bfb (KR σ x)) ((N1 P o).run σ) some⟩
  | false=>N1 P o
 | _=>N1 P o
theorem Ary {P:Program} {o:Op} {σ:ES} {v:AV} (h:(Ai1 P o).run σ=some v):Ay P σ.toS o=some v:=by
 have hall:(N1 P o).run σ=some v→Ay P σ.toS o=some v:=by
  intro h
  have h:(Amq P o).run (KR σ) (lbK σ)=some v:=h
  rw [Amr,D4,Azu,Dc,R4] at h
  exact R3 h
 unfold Ai1 at h
 split at h
 ·rename_i op t x y ty
  rcases Ec h with ⟨_,h⟩ | ⟨r,hr,h⟩
  ·exact hall h
  ·cases h
   have:=MZ (P:=P) t x y (Avq hr)
   rw [D4,Dc] at this
   rw [IL,Uu _ (by have:=Avq hr; rw [D4,Dc] at this; exact this)]
   exact this
 ·refine hall ?_; exact h
 ·refine hall ?_; exact h
 ·split at h
  ·rename_i ht
   rcases Ec h with ⟨_,h⟩ | ⟨r,hr,h⟩
   ·exact hall h
   ·cases h
    rw [D4,Dc] at hr
    exact Aru ht hr
  ·exact hall h
 ·split at h
  ·rename_i ht
   rcases Ec h with ⟨_,h⟩ | ⟨r,hr,h⟩
   ·exact hall h
   ·cases h
    rw [D4,Dc] at hr
    exact Arv ht hr
  ·exact hall h
 ·split at h
  ·rename_i h1
   split at h
   ·rename_i h2
    rcases Ec h with ⟨_,h⟩ | ⟨r,hr,h⟩
    ·exact hall h
    ·cases h
     rw [D4,Dc] at hr
     rw [ER]
     exact An6 h1 h2 hr
   ·rename_i h2
    rcases Ec h with ⟨_,h⟩ | ⟨r,hr,h⟩
    ·exact hall h
    ·cases h
     rw [D4,Dc] at hr
     rw [ER]
     exact Arw h1 h2 hr
   ·exact hall h
  ·exact hall h
 ·split at h
  ·rename_i ht
   rcases Ec h with ⟨_,h⟩ | ⟨r,hr,h⟩
   ·exact hall h
   ·cases h
    rw [D4,Dc] at hr
    exact Arx rfl rfl ht hr
  ·exact hall h
 ·exact hall h
structure OFn where
 run:{R:Type}→Bool→EE→ES→R→(ES→R)→R
def OFn.Ok (P:Program) (f:OFn) (s:Bool→Env→St→Option St):Prop:=
 ∀ (R:Type) (lt:Bool) (E:EE) (σ:ES) (z r:R) (c:ES→R),E.Ok→σ.Inv→f.run lt E σ z c=r→r=z∨∃ σ',σ'.Inv∧σ'.n=σ.n∧s lt E.env σ.toS=some σ'.toS∧c σ'=r
noncomputable def hpK {R:Type} (P:Program) (o:Op) (p:PFn) (σ:ES) (z:R) (c:ES→R):R:=
 el ((Ams P o).run (KR σ) (gK σ) σ.hn σ.cnt) z fun q=>ES.rec (motive:=fun _=>R) (fun T n H hn _=>
  el (Abc q.2.1 H hn) z fun H1=>
   HA.rec (motive:=fun _=>R)
    (fun b=>el (H1.push (M0 q.2.1 hn) b) z fun H2=>fN (M0 q.2.1 hn+1) fun m=>fN q.2.2.2 fun cnt=>fT H2 fun H2=>p.put q.1 ⟨T,n,H2,m,cnt⟩ z c)
    (fun id b=>el (Tr.setN b H1 id) z fun H2=>fN (M0 q.2.1 hn) fun m=>fN q.2.2.2 fun cnt=>fT H2 fun H2=>p.put q.1 ⟨T,n,H2,m,cnt⟩ z c) q.2.2.1) σ
theorem V0 {R:Type} (P:Program) (o:Op) (dst:Option Nat) (σ:ES) (z:R) (c:ES→R):hpK P o (Gs dst) σ z c=el (Y9 P σ o dst) z c:=by
 unfold hpK Y9
 rw [Y8,D4,Zg]
 cases Gv P (LY σ) (gE σ) σ.hn σ.cnt o with
 | none=>rfl
 | some q=>
  obtain ⟨v,p,a,k⟩:=q
  obtain ⟨T,n,H,hn,cnt⟩:=σ
  simp only [DQ,An0,Avp]
  cases Abc p H hn with
  | none=>rfl
  | some H1=>
   simp only [DQ]
   cases a with
   | push b=>
    simp only
    cases H1.push (M0 p hn) b with
    | none=>rfl
    | some H2=>simp only [DQ,El]
   | put id b=>
    simp only
    cases Tr.setN b H1 id with
    | none=>rfl
    | some H2=>simp only [DQ,El]
noncomputable def lpK {R:Type} (P:Program) (o:Op) (p:PFn) (σ:ES) (z:R) (c:ES→R):R:=
 el ((Ams P o).run (KR σ) (gK σ) σ.hn σ.cnt) z fun q=>
  bB q.2.1 (HA.rec (motive:=fun _=>R) (fun b=>bB (norefs b.els) z (ES.rec (motive:=fun _=>R) (fun T n H hn cnt=>fN (cnt+1) fun m=>p.put (.vw false b.els) ⟨T,n,H,hn,m⟩ z c) σ)) (fun _ _=>z) q.2.2.1) z
theorem An7 {R:Type} (P:Program) (o:Op) (dst:Option Nat) (σ:ES) (z:R) (c:ES→R):lpK P o (Gs dst) σ z c=el (Amu P σ o dst) z c:=by
 unfold lpK Amu
 rw [Y8,D4,Zg]
 cases Gv P (LY σ) (gE σ) σ.hn σ.cnt o with
 | none=>rfl
 | some q=>
  obtain ⟨v,p,a,k⟩:=q
  simp only [DQ]
  cases p with
  | true=>rfl
  | false=>
   cases a with
   | put id b=>rfl
   | push b=>
    simp only [Bz]
    cases norefs b.els with
    | false=>rfl
    | true=>simp only [Br,An0,El]
noncomputable def M3 (args:List Operand) (f:Operand) (p:PFn) {R:Type} (E:EE) (σ:ES) (z:R) (c:ES→R):R:=
 match KR σ f with
 | .fn g caps=>bB (E.isP g)
   (bB (E.isV g)
    (el (E.hc g (args.map (KR σ)++caps) σ.H σ.hn σ.cnt) z fun q=>ES.rec (motive:=fun _=>R) (fun T n _ _ _=>fT q.2.1 fun H=>fN q.2.2.1 fun hn=>fN q.2.2.2 fun cnt=>p.put q.1 ⟨T,n,H,hn,cnt⟩ z c) σ)
    (bB (norefs (args.map (KR σ)++caps)) z (el (E.vc g (args.map (KR σ)++caps)) z fun r=>p.put r σ z c)))
   (el (E.pc g (J4 (gK σ) (args.map (KR σ)++caps))) z fun r=>p.put r σ z c)
 | _=>z
noncomputable def Ld (P:Program) (o:Oper):OFn:=
 match o.op with
 | .call { callee:=.value f,args,.. }=>⟨fun _ E σ z c=>M3 args.toList f (Gs o.dst) E σ z c⟩
 | _=>match isHeapOp o.op with
  | true=>match Cl o.op with
   | true=>⟨fun lt _ σ z c=>bB lt (hpK P o.op (Gs o.dst) σ z c) (lpK P o.op (Gs o.dst) σ z c)⟩
   | false=>⟨fun _ _ σ z c=>hpK P o.op (Gs o.dst) σ z c⟩
  | false=>⟨fun _ _ σ z c=>el ((Ai1 P o.op).run σ) z fun v=>(Gs o.dst).put v σ z c⟩
theorem Zh {α R:Type} {x:Option α} {z r:R} {c:α→R} (h:el x z c=r):r=z∨∃ a,x=some a∧c a=r:=by
 cases x with
 | none=>exact .inl h.symm
 | some a=>exact .inr ⟨a,rfl,h⟩
theorem M4 {R:Type} {b:Bool} {f t r:R} (h:bB b f t=r):(b=false∧f=r)∨(b=true∧t=r):=by
 cases b with
 | false=>exact .inl ⟨rfl,h⟩
 | true=>exact .inr ⟨rfl,h⟩
theorem R9 {R:Type} (op:Op) (f:Operand) (args:Array Operand) (ats:Array TypeId) (ho:op=.call ⟨.value f,args,ats⟩) (dst:Option Nat) (E:EE) (σ:ES) (z:R) (c:ES→R):
  M3 args.toList f (Gs dst) E σ z c=el (match I3 (LY σ) op with | some (g,as)=>Za E σ g as dst | none=>none) z c:=by
 subst ho
 unfold M3 I3
 rw [D4,Zg]
 simp only
 cases LY σ f <;> try rfl
 rename_i g caps
 simp only
 unfold Za
 cases E.isP g with
 | true=>
  simp only [Br]
  cases E.pc g (J4 (gE σ) (List.map (LY σ) args.toList++caps)) with
  | none=>rfl
  | some r=>simp only [DQ,El]
 | false=>
  simp only [Bz]
  cases E.isV g with
  | true=>
   simp only [Br]
   cases norefs (List.map (LY σ) args.toList++caps) with
   | false=>rfl
   | true=>
    simp only [Br]
    cases E.vc g (List.map (LY σ) args.toList++caps) with
    | none=>rfl
    | some r=>simp only [DQ,El]
  | false=>
   simp only [Bz]
   cases E.hc g (List.map (LY σ) args.toList++caps) σ.H σ.hn σ.cnt with
   | none=>rfl
   | some q=>simp only [DQ,Avp,An0,El]
theorem Zi (P:Program) (o:Oper):(Ld P o).Ok P (fun lt E s=>Lc P E s o lt):=by
 intro R lt E σ z r c hE hi h
 have viaE:∀ lt,el (J5 P E σ o lt) z c=r→r=z∨∃ σ',σ'.Inv∧σ'.n=σ.n∧Lc P E.env σ.toS o lt=some σ'.toS∧c σ'=r:=by
  intro lt h
  rcases Zh h with h | ⟨σ',h1,h2⟩
  ·exact .inl h
  ·obtain ⟨q1,q2,q3⟩:=R6 hE hi h1
   exact .inr ⟨σ',q1,q3,q2,h2⟩
 have rest:Bk o.op=false→(match isHeapOp o.op with
   | true=>match Cl o.op with
    | true=>(⟨fun lt _ σ z c=>bB lt (hpK P o.op (Gs o.dst) σ z c) (lpK P o.op (Gs o.dst) σ z c)⟩:OFn)
    | false=>⟨fun _ _ σ z c=>hpK P o.op (Gs o.dst) σ z c⟩
   | false=>⟨fun _ _ σ z c=>el ((Ai1 P o.op).run σ) z fun v=>(Gs o.dst).put v σ z c⟩).run lt E σ z c=r→
   r=z∨∃ σ',σ'.Inv∧σ'.n=σ.n∧Lc P E.env σ.toS o lt=some σ'.toS∧c σ'=r:=by
  intro hcall h
  cases hh:isHeapOp o.op with
  | true=>
   rw [hh] at h
   simp only at h
   cases hl:Cl o.op with
   | true=>
    rw [hl] at h
    simp only at h
    refine viaE lt ?_
    unfold J5
    rw [hcall,hh,hl]
    simp only [Bool.and_true]
    cases lt with
    | true=>rw [Br,An7] at h; exact h
    | false=>rw [Bz,V0] at h; exact h
   | false=>
    rw [hl] at h
    simp only at h
    refine viaE lt ?_
    unfold J5
    rw [hcall,hh,hl]
    simp only [Bool.and_false]
    rw [V0] at h
    exact h
  | false=>
   rw [hh] at h
   simp only at h
   rcases Zh h with h | ⟨v,hv,h⟩
   ·exact .inl h
   ·have hv:=Ary hv
    rw [El] at h
    rcases Zh h with h | ⟨σ',h1,h2⟩
    ·exact .inl h
    ·obtain ⟨q1,q2,q3,_⟩:=EV hi h1
     refine .inr ⟨σ',q1,q3,?_,h2⟩
     have hl:(lt && Cl o.op)=false:=by
      cases hq:Cl o.op with
      | false=>rw [Bool.and_false]
      | true=>rw [(R5 hq).1] at hh; cases hh
     have hpure:AQ E.env σ.toS o.op=true:=by
      unfold AQ
      rw [hcall,if_neg (by decide),hh]; rfl
     unfold Lc
     rw [if_neg (by rw [hl]; decide),if_pos hpure]
     unfold Jv
     rw [hcall,if_neg (by decide),hv,lx34,q2]
 unfold Ld at h
 split at h
 ·rename_i f args ats ho
  have h:M3 args.toList f (Gs o.dst) E σ z c=r:=h
  rw [R9 o.op f args ats ho] at h
  refine viaE lt ?_
  unfold J5
  rw [show Bk o.op=true by rw [ho]; rfl]
  exact h
 ·rename_i hno
  refine rest ?_ h
  cases hq:Bk o.op with
  | false=>rfl
  | true=>
   exfalso
   unfold Bk at hq
   split at hq
   ·rename_i f args ats ho
    exact hno _ _ _ ho
   ·cases hq
noncomputable def Zj (P:Program) (all:Array Oper) (o:Oper):OFn:=
 match o.guard with
 | none=>Ld P o
 | some (j,want)=>match (all[j]?).bind (·.dst) with
  | some d=>⟨fun _ E σ z c=>match KR σ (.tmp d) with
   | .sc (.bool b)=>bB (b == want) ((Gs o.dst).put .un σ z c) ((Ld P o).run false E σ z c)
   | .un=>(Gs o.dst).put .un σ z c
   | _=>z⟩
  | none=>⟨fun _ _ σ z c=>(Gs o.dst).put .un σ z c⟩
def opS (P:Program) (all:Array Oper) (o:Oper) (lt:Bool) (E:Env) (s:St):Option St:=Fb lt o (Ag P E all s o) (Ei P s o.op o.dst)
theorem An8 (P:Program) (all:Array Oper) (o:Oper):(Zj P all o).Ok P (opS P all o):=by
 intro R lt E σ z r c hE hi h
 unfold Zj at h
 unfold opS Fb
 cases hg:o.guard with
 | none=>
  rw [hg] at h
  simp only at h
  rcases Zi P o R lt E σ z r c hE hi h with h | ⟨σ',q1,q2,q3,q4⟩
  ·exact .inl h
  ·refine .inr ⟨σ',q1,q2,?_,q4⟩
   rw [←q3]
   unfold Lc Ag
   simp only [hg,Option.isNone_none,Bool.and_true]
 | some jw=>
  obtain ⟨j,want⟩:=jw
  have hn:(lt && Cl o.op && (some (j,want)).isNone)=false:=AZ
  rw [hn,if_neg (by decide)]
  rw [hg] at h
  simp only at h
  have put:(Gs o.dst).put .un σ z c=r→(Ao all σ.toS j=.un∨∃ b,Ao all σ.toS j=.sc (.bool b)∧¬ b=want)→r=z∨∃ σ',σ'.Inv∧σ'.n=σ.n∧Ag P E.env all σ.toS o=some σ'.toS∧c σ'=r:=by
   intro h hb
   rw [El] at h
   rcases Zh h with h | ⟨σ',h1,h2⟩
   ·exact .inl h
   ·obtain ⟨q1,q2,q3,_⟩:=EV hi h1
    refine .inr ⟨σ',q1,q3,?_,h2⟩
    unfold Ag
    simp only [hg]
    rcases hb with hb | ⟨b,hb,hne⟩
    ·rw [hb]; simp only [q2]
    ·rw [hb]
     simp only [if_neg hne,lx34,q2]
     split <;> rfl
  have gv:Ao all σ.toS j=gvE all σ j:=(Amx all σ j).symm
  cases hd:(all[j]?).bind (·.dst) with
  | none=>
   rw [hd] at h
   simp only at h
   refine put h (.inl ?_)
   rw [gv]
   unfold gvE
   rw [hd]
  | some d=>
   rw [hd] at h
   simp only [D4] at h
   have gv:Ao all σ.toS j=LY σ (.tmp d):=by
    rw [gv]
    unfold gvE
    rw [hd]
   split at h
   ·rename_i b hb
    rcases M4 h with ⟨hw,h⟩ | ⟨hw,h⟩
    ·exact put h (.inr ⟨b,by rw [gv,hb],fun e=>by rw [e] at hw; simp at hw⟩)
    ·have hw:b=want:=eq_of_beq hw
     rcases Zi P o R false E σ z r c hE hi h with h | ⟨σ',q1,q2,q3,q4⟩
     ·exact .inl h
     ·refine .inr ⟨σ',q1,q2,?_,q4⟩
      rw [←q3]
      unfold Lc Ag
      simp only [hg,gv,hb,Bool.false_and,if_pos hw]
      rfl
   ·rename_i hb
    exact put h (.inl (by rw [gv,hb]))
   ·exact .inl h.symm
noncomputable def M5 (P:Program) (all:Array Oper) (l:List Oper):OFn:=
 match l with
 | []=>⟨fun _ _ σ _ c=>c σ⟩
 | o::r=>⟨fun lt E σ z c=>(Zj P all o).run lt E σ z fun σ'=>(M5 P all r).run lt E σ' z c⟩
def An9 (P:Program) (all:Array Oper):List Oper→Bool→Env→St→Option St
 | [],_,_,s=>some s
 | o::r,lt,E,s=>match opS P all o lt E s with
  | some s'=>An9 P all r lt E s'
  | none=>none
theorem Afb (P:Program) (all:Array Oper) (E:Env):∀ (l:List Oper) (s:St),An9 P all l E.lit E s=Ff P E all l s
 | [],s=>rfl
 | o::r,s=>by
  simp only [An9,Ff,opS,Ej]
  cases Fb E.lit o (Ag P E all s o) (Ei P s o.op o.dst) with
  | none=>rfl
  | some s'=>exact Afb P all E r s'
theorem Afc (P:Program) (all:Array Oper):∀ l,(M5 P all l).Ok P (An9 P all l)
 | []=>fun R lt E σ z r c hE hi h=>.inr ⟨σ,hi,rfl,rfl,h⟩
 | o::l=>fun R lt E σ z r c hE hi h=>by
  have h:(Zj P all o).run lt E σ z (fun σ'=>(M5 P all l).run lt E σ' z c)=r:=by
   rw [←h]
   simp only [M5]
  rcases An8 P all o R lt E σ z r _ hE hi h with h | ⟨σ',q1,q2,q3,q4⟩
  ·exact .inl h
  ·rcases Afc P all l R lt E σ' z r c hE q1 q4 with h | ⟨σ2,k1,k2,k3,k4⟩
   ·exact .inl h
   ·exact .inr ⟨σ2,k1,k2.trans q2,by simp only [An9,q3]; exact k3,k4⟩
end Go.SX
