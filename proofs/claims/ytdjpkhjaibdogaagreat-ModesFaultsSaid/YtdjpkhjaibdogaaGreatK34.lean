/-
  Lemmas towards ModesFaults (joined texts: GA, FW, FX, FY, FZ, FZB, GK, GL).
  Conditions: none.
-/
import Derived.Test.YtdjpkhjaibdogaaGreatK01
import Derived.Test.YtdjpkhjaibdogaaGreatK33
import Derived.Test.YtdjpkhjaibdogaaGreatK02
import Derived.Test.YtdjpkhjaibdogaaGreatK26
set_option linter.unusedSimpArgs false
set_option linter.unusedVariables false
set_option maxRecDepth 100000
set_option maxHeartbeats 8000000
namespace Go.Proofs.YtdjpkhjaibdogaaGreat
open Go Go.SX
structure Mor (c:Cd) (x:Cx) (φ:Ru→Ru):Prop where
 act:∀ r,(φ r).s.act=r.s.act
 exe:∀ r pc,Hi c (DQ (φ r).s x) pc=Hi c (DQ r.s x) pc
 app:∀ m f r,CT x m f (φ r)=φ (CT x m f r)
 fau:∀ r,JD (φ r)=φ (JD r)
 add:∀ l r,XU l (φ r)=φ (XU l r)
 var:∀ l r,L1 l (φ r)=φ (L1 l r)
theorem Mor.appL {c:Cd} {x:Cx} {φ:Ru→Ru} (h:Mor c x φ) (m:Int):∀ (l:List Ef) (r:Ru),appL x m l (φ r)=φ (appL x m l r)
 | [],_=>rfl
 | f::l,r=>by
  have e:∀ r,Go.Proofs.YtdjpkhjaibdogaaGreat.appL x m (f::l) r=Go.Proofs.YtdjpkhjaibdogaaGreat.appL x m l (CT x m f r):=fun _=>rfl
  rw [e,e,h.app,h.appL m l]
theorem Mor.one {c:Cd} {x:Cx} {φ:Ru→Ru} (h:Mor c x φ) (m:Int) (ev:Ev) (r:Ru):D2 c x m ev (φ r)=(φ (D2 c x m ev r).1,(D2 c x m ev r).2):=by
 rw [D2,D2]
 cases hn:ET c m ev.tr ev.ix with
 | none=>rfl
 | some en=>
  simp only [h.exe]
  cases hy:Hi c (DQ r.s x) en.pc with
  | none=>simp only [P3,h.fau]
  | some y=>simp only [P3,h.var,h.appL,h.add]
theorem Mor.st {c:Cd} {x:Cx} {φ:Ru→Ru} (h:Mor c x φ) (ev:Ev) (a0:Int) (r:Ru) (m:Nat):Nt c x ev a0 (φ r) m=(φ (Nt c x ev a0 r m).1,(Nt c x ev a0 r m).2):=by
 unfold Nt
 rw [h.act]
 by_cases hz:BT a0 m=true∧BT r.s.act m=true
 ·rw [if_pos hz,if_pos hz]; exact h.one m ev r
 ·rw [if_neg hz,if_neg hz]
theorem Mor.han {c:Cd} {x:Cx} {φ:Ru→Ru} (h:Mor c x φ) (ev:Ev) (a0:Int):∀ (l:List Nat) (r:Ru),NJ c x ev a0 l (φ r)=φ (NJ c x ev a0 l r)
 | [],_=>rfl
 | m::l,r=>by
  rw [NJ,NJ,h.st]
  by_cases hz:(Nt c x ev a0 r m).2=true
  ·simp only [if_pos hz]
  ·simp only [if_neg hz]; exact h.han ev a0 l _
theorem Mor.hand {c:Cd} {x:Cx} {φ:Ru→Ru} (h:Mor c x φ) (ev:Ev) (r:Ru):EV c x ev (φ r)=φ (EV c x ev r):=by
 unfold EV
 by_cases h0:0≤ev.mo
 ·rw [if_pos h0,if_pos h0,h.one]
 ·rw [if_neg h0,if_neg h0,h.act,h.han]
def XZ (l:List Ev) (r:Ru):Ru:={ r with po:=l++r.po }
theorem TA {x:Cx} {φ:Ru→Ru} (h1:∀ r,(φ r).s.act=r.s.act)
  (left:∀ r (g:List Int→List Int),{ φ r with s:={ (φ r).s with zl:=false,left:=g (φ r).s.left } }=φ { r with s:={ r.s with zl:=false,left:=g r.s.left } })
  (on:∀ r a e,{ φ r with s:={ (φ r).s with act:=a },po:=(φ r).po++[e] }=φ { r with s:={ r.s with act:=a },po:=r.po++[e] })
  (off:∀ r a (g:List Lo→List Lo) e,{ φ r with s:={ (φ r).s with act:=a,zm:=false,lamps:=g (φ r).s.lamps },po:=(φ r).po++[e] }=φ { r with s:={ r.s with act:=a,zm:=false,lamps:=g r.s.lamps },po:=r.po++[e] })
  (post:∀ r e,{ φ r with po:=(φ r).po++[e] }=φ { r with po:=r.po++[e] })
  (lamp:∀ r (g:List Lo→List Lo),{ φ r with s:={ (φ r).s with zm:=false,lamps:=g (φ r).s.lamps } }=φ { r with s:={ r.s with zm:=false,lamps:=g r.s.lamps } }):
  ∀ m f r,CT x m f (φ r)=φ (CT x m f r):=by
 intro m f r
 have hl:∀ a se,DU (φ r) m a se=φ (DU r m a se):=fun a se=>by
  unfold DU
  rw [h1]
  by_cases hz:BT r.s.act m=true
  ·rw [if_pos hz,if_pos hz]; exact lamp r (fun l=>Asy l ⟨m,a,se⟩)
  ·rw [if_neg hz,if_neg hz]
 unfold CT
 by_cases k21:f.k=21
 ·rw [if_pos k21,if_pos k21]; exact left r (fun l=>l.set f.a.toNat (D7 f.b 0 2147483647))
 rw [if_neg k21,if_neg k21]
 by_cases k22:f.k=22
 ·rw [if_pos k22,if_pos k22]; exact left r (fun l=>l.set f.a.toNat (D7 0 0 2147483647))
 rw [if_neg k22,if_neg k22]
 by_cases k23:f.k=23
 ·rw [if_pos k23,if_pos k23,h1]
  by_cases hz:BT r.s.act f.a=true
  ·rw [if_pos hz,if_pos hz]
  ·rw [if_neg hz,if_neg hz]; exact on r _ _
 rw [if_neg k23,if_neg k23]
 by_cases k24:f.k=24
 ·rw [if_pos k24,if_pos k24,h1]
  by_cases hz:BT r.s.act f.a=true
  ·rw [if_pos hz,if_pos hz]; exact off r _ (fun l=>R7 l f.a) _
  ·rw [if_neg hz,if_neg hz]
 rw [if_neg k24,if_neg k24]
 by_cases k25:f.k=25
 ·rw [if_pos k25,if_pos k25]; exact post r _
 rw [if_neg k25,if_neg k25]
 by_cases k19:f.k=19
 ·rw [if_pos k19,if_pos k19]; exact hl _ _
 rw [if_neg k19,if_neg k19]
 by_cases k20:f.k=20
 ·rw [if_pos k20,if_pos k20]; exact hl _ _
 rw [if_neg k20,if_neg k20]
theorem Air (c:Cd) (x:Cx) (l:List Ev):Mor c x (XZ l) where
 act _:=rfl
 exe _ _:=rfl
 app:=TA (fun _=>rfl) (fun _ _=>rfl) (fun r a e=>by simp [XZ]) (fun r a g e=>by simp [XZ]) (fun r e=>by simp [XZ]) (fun _ _=>rfl)
 fau _:=rfl
 add _ _:=rfl
 var _ _:=rfl
def X3 (k:Int) (r:Ru):Ru:={ r with s:={ r.s with fau:=min (r.s.fau+k) 2147483647 } }
theorem Ais (c:Cd) (x:Cx) (k:Int) (hk:0≤k):Mor c x (X3 k) where
 act _:=rfl
 exe _ _:=rfl
 app:=TA (fun _=>rfl) (fun _ _=>rfl) (fun _ _ _=>rfl) (fun _ _ _ _=>rfl) (fun _ _=>rfl) (fun _ _=>rfl)
 fau r:=by
  have:min (min (r.s.fau+k) 2147483647+1) 2147483647=min (min (r.s.fau+1) 2147483647+k) 2147483647:=Ah
  simp only [JD,X3,this]
 add _ _:=rfl
 var _ _:=rfl
def KV (r:Ru):Ru:={ r with s:={ r.s with zv:=false,zl:=false,zm:=false } }
theorem Acv (c:Cd) (v v':Vn) (h1:v.left=v'.left) (h2:v.clo=v'.clo) (h3:v.act=v'.act) (h4:v.pl'=v'.pl') (h5:v.ba=v'.ba) (y:In) (m:Ms):AO c v y m=AO c v' y m:=by
 unfold AO opS
 rw [h1,h2,h3,h4,h5]
theorem WQ (c:Cd) (v v':Vn) (h1:v.left=v'.left) (h2:v.clo=v'.clo) (h3:v.act=v'.act) (h4:v.pl'=v'.pl') (h5:v.ba=v'.ba):∀ n m,DC c v n m=DC c v' n m
 | 0,_=>rfl
 | n+1,m=>by
  rw [DC,DC,Acv c v v' h1 h2 h3 h4 h5,WQ c v v' h1 h2 h3 h4 h5 n]
theorem Ait (c:Cd) (v v':Vn) (h0:v.vars=v'.vars) (h1:v.left=v'.left) (h2:v.clo=v'.clo) (h3:v.act=v'.act) (h4:v.pl'=v'.pl') (h5:v.ba=v'.ba) (pc:Int):Hi c v pc=Hi c v' pc:=by
 have e:LZ v pc=LZ v' pc:=by rw [LZ,LZ,h0]
 unfold Hi
 rw [WQ c v v' h1 h2 h3 h4 h5,e]
theorem Hw (c:Cd) (x:Cx):Mor c x (fun r=>KV r) where
 act _:=rfl
 exe r pc:=Ait c (DQ (KV r).s x) (DQ r.s x) rfl rfl rfl rfl rfl rfl pc
 app:=TA (fun _=>rfl) (fun _ _=>rfl) (fun _ _ _=>rfl) (fun _ _ _ _=>rfl) (fun _ _=>rfl) (fun _ _=>rfl)
 fau _:=rfl
 add _ _:=rfl
 var _ _:=rfl
theorem Acw (l:List Ev) (r:Ru):XZ l (JG r)={ r with po:=l }:=by simp [XZ,JG]
theorem Amw (c:Cd) (x:Cx) (ev:Ev) (r:Ru):EV c x ev r=XZ r.po (EV c x ev (JG r)):=by
 rw [←(Air c x r.po).hand,Acw]
theorem WR {c:Cd} {x:Cx} {φ:Ru→Ru} (h:Mor c x φ) (hn:∀ r,JG (φ r)=φ (JG r)) (hp:∀ r,(φ r).po=r.po) (l:List Ev) (r:Ru):∀ i,B7 c x l (φ r) i=(φ (B7 c x l r i).1,(B7 c x l r i).2)
 | 0=>rfl
 | i+1=>by
  rw [B7,B7,WR h hn hp l r i]
  simp only
  by_cases hi:i < (B7 c x l r i).2.length
  ·rw [if_pos hi,if_pos hi,hn,h.hand,hp]
  ·rw [if_neg hi,if_neg hi]
theorem WS {c:Cd} {x:Cx} {φ:Ru→Ru} (h:Mor c x φ) (hn:∀ r,JG (φ r)=φ (JG r)) (hp:∀ r,(φ r).po=r.po) (l:List Ev) (r:Ru):F8 c x l (φ r)=φ (F8 c x l r):=by
 unfold F8
 rw [WR h hn hp l r 64]
 simp only
 by_cases hi:64 < (B7 c x l r 64).2.length
 ·rw [if_pos hi,if_pos hi,h.fau]
 ·rw [if_neg hi,if_neg hi]
theorem L4 {a b:Lo}:Hz a b < 0↔DV a b:=Aa7 a b
theorem Aal:∀ {l:List Lo},(∀ i,i+1 < l.length→DV (l.getD i default) (l.getD (i+1) default))→Hc l
 | [],_=>List.Pairwise.nil
 | [x],_=>List.pairwise_singleton _ _
 | x::y::l,h=>by
  have h1:DV x y:=h 0 (by simp)
  have h2:Hc (y::l):=Aal fun i hi=>h (i+1) (by simpa using hi)
  refine lx126.2 ⟨fun z hz=>?_,h2⟩
  rcases lx59.1 hz with rfl | hz
  ·exact h1
  ·exact IJ h1 ((lx126.1 h2).1 z hz)
theorem At3 {l:List Lo} (h:Hc l) {i:Nat} (hi:i+1 < l.length):DV (l.getD i default) (l.getD (i+1) default):=by
 rw [lx80,lx80,lx51 (by omega),lx51 hi]
 exact lx122.1 h i (i+1) (by omega) hi (by omega)
theorem Aiu {l:List Int} {lo:Int} (h:l.any (EY lo)=false):∀ y ∈ l,lo≤y∧y≤2147483647:=fun y hy=>by
 have:=lx97.1 h y hy
 simp only [EY,IX,AR,not_or] at this
 omega
theorem TB {c:Cd} {s:Rs} {x:Cx} (hf:Fit c) (h:BU c s=true) (hx:KT x=true):RuI c x ⟨s,[],[]⟩:=by
 simp only [BU,AH,J6,AR] at h
 obtain ⟨⟨h1,h2⟩,h3⟩:=h
 have hv:=H8 h1
 have hl:=Cw hv
 simp only [Hg,DQ,AH,lx85,J6] at h1
 obtain ⟨⟨⟨⟨⟨⟨⟨_,e2⟩,e3⟩,e4⟩,e5⟩,e6⟩,_⟩,_⟩:=h1
 simp only [KT,AH,AR] at hx
 have hlo:∀ i,i < s.lamps.length→H7 c s i=false:=fun i hi=>by
  rw [K5]
  intro hc
  rw [H5.2 ⟨i,hi,hc⟩] at h3; cases h3
 refine ⟨hv,hf,⟨⟨by omega,by omega⟩,⟨by omega,by omega⟩,by omega,by omega⟩,by exact_mod_cast e2,fun y hy=>?_,e3,fun y hy=>?_,?_,h2,fun o ho=>?_,Aal fun i hi=>?_⟩
 ·exact Aiu e4 y hy
 ·exact Aiu e5 y hy
 ·exact Aih (by omega) e6
 ·obtain ⟨i,hi,rfl⟩:=lx69 ho
  have:=hlo i hi
  simp only [H7,J7] at this
  have h4:=this.1
  rw [lx80,lx51 hi,lx10] at h4
  simp only [loX,J7,BJ,Hj] at h4
  obtain ⟨⟨⟨⟨⟨k1,k2⟩,k3⟩,k4⟩,k5⟩,k6⟩:=h4
  exact ⟨⟨Int.not_lt.1 k1,Int.not_le.1 k2⟩,k3,⟨Int.not_lt.1 k4,Int.not_le.1 k5⟩,k6⟩
 ·have:=hlo (i+1) hi
  simp only [H7,loY,J7,Qu,BJ] at this
  rcases this.2 with h4 | h4
  ·omega
  ·exact L4.1 (Int.not_le.1 (by rw [Nat.add_sub_cancel] at h4; exact h4))
theorem Acx {c:Cd} {x:Cx} {r:Ru} (h:RuI c x r):BU c r.s=true:=by
 have h1:=h.env
 have h2:Hg c (DQ r.s cx0)=true:=by
  simp only [Hg,DQ,AH,lx85,J6] at h1 ⊢
  obtain ⟨⟨⟨⟨⟨⟨⟨e1,e2⟩,e3⟩,e4⟩,e5⟩,e6⟩,_⟩,_⟩:=h1
  exact ⟨⟨⟨⟨⟨⟨⟨e1,e2⟩,e3⟩,e4⟩,e5⟩,e6⟩,by decide⟩,by decide⟩
 have h3:=h.fa
 rw [KP,h2]
 ·simp [h3.1,h3.2]
 ·intro i hi
  have hg:r.s.lamps.getD i default=r.s.lamps[i]:=by rw [lx80,lx51 hi]; rfl
  obtain ⟨⟨k1,k2⟩,k3,⟨k4,k5⟩,k6⟩:=h.lo _ (lx90 hi)
  have e1:loX c r.s (r.s.lamps.getD i default)=false:=by
   rw [hg]
   simp only [loX,J7,BJ,Hj]
   exact ⟨⟨⟨⟨⟨Int.not_lt.2 k1,Int.not_le.2 k2⟩,k3⟩,Int.not_lt.2 k4⟩,Int.not_le.2 k5⟩,k6⟩
  have e2:loY r.s i=false:=by
   cases i with
   | zero=>simp [loY]
   | succ i=>
    have:=L4.2 (At3 h.so hi)
    simp only [loY,Qu,BJ,Nat.add_sub_cancel]
    exact .inr (Int.not_le.2 this)
  rw [H7,e1,e2]; rfl
end Go.Proofs.YtdjpkhjaibdogaaGreat
namespace Go.Proofs.YtdjpkhjaibdogaaGreat
open Go Go.SX
attribute [local congr] ite_congr
def WT:Rs:=⟨true,[],true,[],0,true,[],0⟩
end Go.Proofs.YtdjpkhjaibdogaaGreat
namespace Go.Proofs.YtdjpkhjaibdogaaGreat
open Go Go.SX
def Qs (n:Int):Int:=max (n - 1) 0
def TM (l:List Int):Nat→List Ev
 | 0=>[]
 | i+1=>if l.getD i default=1 then TM l i++[⟨5,i,-1⟩] else TM l i
def edE (e:Ed):Ev:=⟨if e.cl then 3 else 4,e.sw,-1⟩
def Ig (s:Rs):Rs:={ s with left:=s.left.map Qs }
def L5 (s:Rs) (ed:List Ed) (po:List Ev):List Ev:=TM s.left s.left.length++ed.map edE++po
def edB (ed:List Ed):Bool:=ed.any fun e=>!HD e.sw 0 63
def poB (c:Cd) (po:List Ev):Bool:=po.any fun e=>!evB c e
noncomputable def Kb (c:Cd) (s:Rs) (ed:List Ed) (po:List Ev) (x:Cx):Ru × Int:=
 if BU c s=false then (⟨WT,[],[]⟩,1) else if KT x=false then (⟨WT,[],[]⟩,5) else if edB ed=true then (⟨WT,[],[]⟩,41) else if poB c po=true then (⟨WT,[],[]⟩,55)
 else (F8 c x (L5 s ed po) ⟨Ig s,[],[]⟩,0)
def L6 (p:Ru × Int):AV:=.tu [.ag [.vw false (p.1.s.vars.map (kA .i64)),.vw false (p.1.s.left.map (kA .i64)),.sc (.int .u32 p.1.s.act),.vw false (p.1.s.lamps.map BY),kA .i64 p.1.s.fau],.vw false (p.1.ef.map Ek),kA .i64 p.2]
theorem P5 (p:Ru × Int):(L6 p).noref=true:=by simp [L6,kA,AV.noref,norefs]
theorem Amx (c:Cd) (x:Cx) (l:List Ev) (r r':Ru) (h:KV r=KV r'):KV (F8 c x l r)=KV (F8 c x l r'):=by
 have key:∀ r,F8 c x l (KV r)=KV (F8 c x l r):=fun r=>WS (Hw c x) (fun _=>rfl) (fun _=>rfl) l r
 rw [←key,←key,h]
theorem Aiv {c:Cd} {x:Cx} {s:Rs} (h:RuI c x ⟨s,[],[]⟩):RuI c x ⟨Ig s,[],[]⟩:=by
 refine ⟨h.val,h.fit,h.cx,h.vl,h.va,by simp only [Ig,lx58]; exact h.ll,fun y hy=>?_,h.ac,h.fa,h.lo,h.so⟩
 simp only [Ig,lx35] at hy
 obtain ⟨z,hz,rfl⟩:=hy
 have:=h.lf z hz
 unfold Qs; omega
theorem RuI.nf {c:Cd} {x:Cx} {r r':Ru} (h:RuI c x r) (e:KV r=KV r'):RuI c x r':=by
 obtain ⟨⟨zv,vars,zl,left,act,zm,lamps,fau⟩,ef,po⟩:=r
 obtain ⟨⟨zv',vars',zl',left',act',zm',lamps',fau'⟩,ef',po'⟩:=r'
 simp only [KV,Ru.mk.injEq,Rs.mk.injEq,D3] at e
 obtain ⟨⟨rfl,rfl,rfl,rfl,rfl⟩,rfl,rfl⟩:=e
 exact ⟨h.val,h.fit,h.cx,h.vl,h.va,h.ll,h.lf,h.ac,h.fa,h.lo,h.so⟩
theorem Aam (l:List Int):∀ i,(TM l i).length≤i
 | 0=>Ax _
 | i+1=>by
  have:=Aam l i
  rw [TM]; split
  ·simp; omega
  ·omega
theorem Aiw (c:Cd) (l:List Int):∀ i,PoI c (TM l i)
 | 0=>fun e he=>by simp [TM] at he
 | i+1=>by
  rw [TM]; split
  ·exact (Aiw c l i).add (by show (-1:Int) < _; omega)
  ·exact Aiw c l i
theorem Aan {c:Cd} {s:Rs} {ed:List Ed} {po:List Ev} (h:poB c po=false):PoI c (L5 s ed po):=by
 refine ((Aiw c _ _).app fun e he=>?_).app fun e he=>?_
 ·obtain ⟨d,_,rfl⟩:=lx35.1 he
  show (-1:Int) < _; omega
 ·have:=lx97.1 h e he
  simp only [J6,Bool.not_eq_false] at this
  simp only [evB,AH] at this
  have:=(Du.1 this.2).2
  omega
end Go.Proofs.YtdjpkhjaibdogaaGreat
namespace Go.Proofs.YtdjpkhjaibdogaaGreat
open Go Go.SX
attribute [local congr] ite_congr
def sdQ (p:Cd × Rs × (Bool × List Ed) × (Bool × List Ev) × Cx):Prop:=Fit p.1∧p.2.2.1.2.length≤1000∧p.2.2.2.1.2.length≤1000
noncomputable def f25:=EP sdQ (fun p=>[B5 p.1,Hf p.2.1,.vw p.2.2.1.1 (p.2.2.1.2.map NG),.vw p.2.2.2.1.1 (p.2.2.2.1.2.map Eh),ND p.2.2.2.2]) (fun p=>L6 (Kb p.1 p.2.1 p.2.2.1.2 p.2.2.2.1.2 p.2.2.2.2))
theorem e25 (c:Cd) (h:Fit c) (s:Rs) (ze:Bool) (ed:List Ed) (zp:Bool) (po:List Ev) (x:Cx) (hed:ed.length≤1000) (hpl:po.length≤1000):
  f25 [B5 c,Hf s,.vw ze (ed.map NG),.vw zp (po.map Eh),ND x]=some (L6 (Kb c s ed po x)):=
 (AG (q:=sdQ) (enc:=fun p=>[B5 p.1,Hf p.2.1,.vw p.2.2.1.1 (p.2.2.1.2.map NG),.vw p.2.2.2.1.1 (p.2.2.2.1.2.map Eh),ND p.2.2.2.2]) (out:=fun p=>L6 (Kb p.1 p.2.1 p.2.2.1.2 p.2.2.2.1.2 p.2.2.2.2)) (c,s,(ze,ed),(zp,po),x) ⟨h,hed,hpl⟩ (by
  rintro ⟨a,b,⟨d1,d2⟩,⟨e1,e2⟩,g⟩ h
  simp only [lx96,AV.vw.injEq,Am5,Th,Ay] at h
  rw [CV h.1,JZ h.2.1,h.2.2.1.1,h.2.2.1.2,h.2.2.2.1.1,h.2.2.2.1.2,Aa4 h.2.2.2.2]) :)
theorem Aao {H:List Blk} {id:Nat} (h:id < H.length) (b z:Blk):(H++[b]).set id z=H.set id z++[b]:=by
 rw [List.set_append_left _ _ h]
theorem TC (ls:List Lo) (x:Lo) (hn:ls.length≤100000) (H:List Blk) (id v u:Nat) (tmp:Bool) (hB:H[id]?=some ⟨true,v,82,6,ls.map BY,false⟩) (cnt:Nat):
  HSpec Tryz.prog 234 [.sl id v 0 ls.length,.sc (.int .i64 (ls.length:Int)),.sl H.length u 0 1] (H++[⟨true,u,82,6,[BY x],tmp⟩]) cnt (.sl id cnt 0 (ls.length+1)) (H.set id ⟨true,cnt,82,6,(ls++[x]).map BY,false⟩) (cnt+1):=by
 have hid:id < H.length:=(lx22.1 hB).1
 have g1:∀ b,(H++[b])[id]?=some ⟨true,v,82,6,ls.map BY,false⟩:=fun b=>by rw [lx61 hid]; exact hB
 have g2:=fun b z=>Aao hid b z
 have hz:decide ((ls.length+1) * 48≤140737488355328)=true:=Aj
 have tl:(ls.map BY).take ls.length=ls.map BY:=lx118 (by simp)
 have q1:decide ((0:Int)≤(ls.length:Int))=true:=Aj
 have q2:decide ((ls.length:Int)≤(ls.length:Int))=true:=Br
 refine Ag (Am (lit:=true) (pm:=fun _=>none) .nil .nil .nil .nil) rfl Tryz.func234 rfl (by decide) (by kernel_rfl) ?_
 simp only [Tryz.f234,Af,lx53,lx63,Nat.reduceAdd,Nat.reduceSub,List.replicate]
 refine Aa ?_
 cases tmp
 all_goals simp (maxSteps:=10000000) +contextual -implicitDefEqProofs only [Bk,Bg,St.put,↓reduceIte,Nat.reduceAdd,Int.reduceLT,Nat.reduceBEq,Nat.reduceLT,D5,Int.reduceAdd,Dq,Ch,Bh,BQ,DM,Ck,Bl,Int.reduceBEq,g1,g2,hz,tl,q2,hB,lx5,lx3,List.dropLast_concat,lx12]
 all_goals try repeat' (first | exact Ae (by kernel_rfl) | refine ⟨Ae (by kernel_rfl),?_⟩ | refine And.intro ?_ ?_ | fail)
 all_goals first | exact .refl _ | exact .inl rfl | exact DY _ _ _ | skip
 all_goals done
theorem Aix (ls:List Lo) (x:Lo) (i:Nat) (hi:i≤ls.length) (hn:ls.length≤100000) (H:List Blk) (id v u:Nat) (tmp:Bool) (hB:H[id]?=some ⟨true,v,82,6,ls.map BY,false⟩) (cnt:Nat):
  HSpec Tryz.prog 234 [.sl id v 0 ls.length,.sc (.int .i64 (i:Int)),.sl H.length u 0 1] (H++[⟨true,u,82,6,[BY x],tmp⟩]) cnt (.sl id cnt 0 (ls.length+1)) (H.set id ⟨true,cnt,82,6,(ls.take i++x::ls.drop i).map BY,false⟩) (cnt+1):=by
 have hid:id < H.length:=(lx22.1 hB).1
 rcases Nat.lt_or_eq_of_le hi with h | rfl
 ·have:=Wv ls x i h hn (H++[⟨true,u,82,6,[BY x],tmp⟩]) id H.length v u tmp (by rw [lx61 hid]; exact hB) (lx3 ..) (by omega) cnt
  refine this.wk (.refl _) ?_ (Ax _)
  rw [Aao hid]
  exact DY _ _ _
 ·have:=TC ls x hn H id v u tmp hB cnt
  rw [lx74,List.drop_length]
  exact this
def Dx (x:Lo) (l:List Lo):Nat:=(l.filter fun y=>decide (DV y x)).length
def L7 (x:Lo) (l:List Lo):Bool:=decide (Dx x l < l.length) && (Hz (l.getD (Dx x l) default) x == 0)
theorem KW {x:Lo}:∀ {l:List Lo},Hc l→∀ i,i < l.length→(DV (l.getD i default) x↔i < Dx x l)
 | [],_,i,hi=>by simp at hi
 | y::l,h,i,hi=>by
  have hh:=lx126.1 h
  by_cases hy:DV y x
  ·have e:Dx x (y::l)=Dx x l+1:=by simp [Dx,List.filter_cons,hy]
   rw [e]
   cases i with
   | zero=>simp [hy]
   | succ i=>
    have:=KW hh.2 i (by simpa using hi) (x:=x)
    simp only [lx125]
    rw [this]; omega
  ·have hno:∀ z ∈ l,¬ DV z x:=fun z hz hc=>by
    have:=hh.1 z hz
    exact hy (IJ this hc)
   have e:Dx x (y::l)=0:=by
    simp only [Dx,List.filter_cons,hy,decide_false,Em,lx7]
    rw [List.filter_eq_nil_iff.2 (fun z hz=>by simpa using hno z hz)]; rfl
   rw [e]
   constructor
   ·intro hc
    cases i with
    | zero=>exact absurd hc hy
    | succ i=>
     simp only [lx125] at hc
     have hi':i < l.length:=by simpa using hi
     rw [lx80,lx51 hi'] at hc
     exact absurd hc (hno _ (lx90 hi'))
   ·intro hc; omega
theorem Aiy {a b:Lo}:(Hz a b == 0)=decide (JE a b):=by
 have h1:=L4 (a:=a) (b:=b)
 have h2:Gl a.mo b.mo=0↔a.mo=b.mo:=by unfold Gl; split <;> (try split) <;> omega
 have h3:Gl a.la b.la=0↔a.la=b.la:=by unfold Gl; split <;> (try split) <;> omega
 have h4:Hz a b=0↔JE a b:=by
  rw [Hz,Aa6]
  unfold JE
  by_cases h:Gl a.mo b.mo=0
  ·rw [if_pos h,h3]; have:=h2.1 h; omega
  ·rw [if_neg h]
   have:¬ a.mo=b.mo:=fun hh=>h (h2.2 hh)
   constructor
   ·intro hc; exact absurd hc h
   ·intro hc; exact absurd hc.1 this
 by_cases h:JE a b
 ·rw [I6 h,h4.2 h]; rfl
 ·rw [GX h,lx113]; exact fun hc=>h (h4.1 hc)
theorem Amy {n h:Nat} (hn:n≤1000000) (hh:n / 2=h):IntKind.i64.wrap (He .u64 (IntKind.u64.wrap (n:Int)) 1)=(h:Int):=by
 have e1:IntKind.u64.wrap (n:Int)=(n:Int):=JL (by omega) (by omega)
 have e:min ((1:Int).toNat) (IntKind.bits .u64)=1:=rfl
 rw [e1,He,e,Int.fdiv_eq_ediv_of_nonneg _ (by decide),Bd (by omega) (by omega)]
 omega
theorem Aap (x:Lo) (l:List Lo):Dx x l≤l.length:=lx86 _ _
theorem P6 {x:Lo}:∀ {l:List Lo},Hc l→JF x l=if L7 x l=true then l.set (Dx x l) x else l.take (Dx x l)++x::l.drop (Dx x l)
 | [],_=>by simp [JF,L7,Dx]
 | y::l,h=>by
  have hh:=lx126.1 h
  by_cases hy:DV y x
  ·have e:Dx x (y::l)=Dx x l+1:=by simp [Dx,List.filter_cons,hy]
   have e2:L7 x (y::l)=L7 x l:=by simp [L7,e]
   rw [JF,if_pos hy,P6 hh.2,e2,e]
   by_cases hc:L7 x l=true
   ·rw [if_pos hc,if_pos hc]; rfl
   ·rw [if_neg hc,if_neg hc]; rfl
  ·have e:Dx x (y::l)=0:=by
    rcases Nat.eq_zero_or_pos (Dx x (y::l)) with h0 | h0
    ·exact h0
    ·exact absurd ((KW h 0 (by simp)).2 h0) hy
   have e2:L7 x (y::l)=decide (JE y x):=by
    simp only [L7,e,lx124,Aiy]
    simp
   rw [JF,if_neg hy,e2,e]
   by_cases hc:JE y x
   ·rw [if_pos hc,if_pos (by simpa using hc)]; rfl
   ·rw [if_neg hc,if_neg (by simpa using hc)]; rfl
def bsQ (p:(Bool × List Lo) × Lo):Prop:=Hc p.1.2∧p.1.2.length≤100000
def bsA (x:Lo) (l:List Lo):AV:=.tu [.sc (.int .i64 (Dx x l:Nat)),.sc (.bool (L7 x l))]
noncomputable def f233:=EP bsQ (fun p=>[.vw p.1.1 (p.1.2.map BY),BY p.2,.fn 80 []]) (fun p=>bsA p.2 p.1.2)
theorem Ba7 (z:Bool) (l:List Lo) (x:Lo) (h:Hc l) (hl1:l.length≤100000):f233 [.vw z (l.map BY),BY x,.fn 80 []]=some (bsA x l):=
 (AG (q:=bsQ) (enc:=fun p=>[.vw p.1.1 (p.1.2.map BY),BY p.2,.fn 80 []]) (out:=fun p=>bsA p.2 p.1.2) ((z,l),x) ⟨h,hl1⟩ (by
  rintro ⟨⟨z',l'⟩,x'⟩ h
  simp only [lx96,AV.vw.injEq,LP,Ay] at h
  rw [h.1.1,h.1.2,LO h.2]) :)
theorem Aqe:Eb Tryz.prog 233 f233:=AQ <| by
 rintro ⟨⟨z,l⟩,x⟩ ⟨hso,hl1⟩
 simp only at hso hl1
 have x1:=fun a=>e80 a x
 have hp:=Aap x l
 simp only
 refine Ab (Lv (.cons Az8 .nil)) rfl Tryz.func233 rfl (by decide) (by kernel_rfl) (by simp [bsA,okc,Ael,Value.oneCell']) ?_
 simp only [Tryz.f233,Af,lx53,lx63,Nat.reduceAdd,Nat.reduceSub,List.replicate]
 refine Aa ?_
 refine gG0 ?_
 have hsf:=fun i hi=>KW hso (x:=x) i hi
 have ho:=fun a=>L4 (a:=a) (b:=x)
 refine Aw (σ:=Nat × Nat) (fun y cnt=>⟨Cg 0 49 [(0,.vw z (l.map BY)),(1,BY x),(2,.fn 80 []),(4,.pt 0 0 0 0),(8,.sc (.int .i64 l.length)),(9,.sc (.int .i64 (y.1:Int))),(10,.sc (.int .i64 (y.2:Int)))],[⟨true,0,82,6,[BY x],false⟩],cnt⟩)
  (fun y=>y.1≤Dx x l∧Dx x l≤y.2∧y.2≤l.length) (fun y=>y.2 - y.1) (0,l.length) ⟨BX _,hp,Ax _⟩ ?_ ?_ rfl ?_
 ·simp (maxSteps:=10000000) only [Bk,Bg,↓reduceIte,reduceCtorEq,Nat.reduceAdd,Nat.reduceEqDiff,Cg,EX,Bl]
  all_goals done
 ·simp only [Bl]; exact AS _
 rintro ⟨i,j⟩ cnt ⟨hi,hj,hjl⟩ ih
 simp only at hi hj hjl
 by_cases hlt:i < j
 ·have hb:decide ((i:Int) < (j:Int))=true:=by rw [AR]; omega
  obtain ⟨h,hh⟩:∃ h,(i+j) / 2=h:=⟨_,rfl⟩
  have h1:i≤h∧h < j:=Ah
  have w1:IntKind.i64.wrap ((i:Int)+(j:Int))=((i+j:Nat):Int):=AK
  have w2:IntKind.i64.wrap ((h:Int)+1)=((h+1:Nat):Int):=AK
  have w3:=Amy (n:=i+j) (by omega) hh
  have hb2:decide (h < l.length)=true:=Aj
  have hb4:decide ((h:Int) < ((l.length:Nat):Int))=true:=Aj
  obtain ⟨y,hg⟩:∃ y,l.getD h default=y:=⟨_,rfl⟩
  have hc:=hsf h (by omega)
  rw [hg] at hc
  have hy:=ho y
  have x2:=x1 y
  have ih1:=fun hc2 c'=>ih (h+1,j) c' ⟨hc2,hj,hjl⟩ (by simp only; omega)
  have ih2:=fun hc2 c'=>ih (i,h) c' ⟨hi,hc2,by omega⟩ (by simp only; omega)
  clear ih hsf ho x1
  simp only [Bl] at x2
  refine Aa ?_
  refine CL ?_
  by_cases hyl:Hz y x < 0
  ·have c0:decide (Hz y x < 0)=true:=by rw [AR]; exact hyl
   simp (maxSteps:=10000000) +contextual -implicitDefEqProofs only [Bk,Bg,St.put,Ap,Al,D8,pl,↓reduceIte,Nat.reduceAdd,D5,Int.reduceAdd,Dq,Bl,norefs,AV.noref,hb,w1,w2,w3,hb2,hb4,hg,x2,c0,Bq,AA]
   refine AD ?_ ?_ (Ax _) (ih1 (by have:=hc.1 (hy.1 hyl); omega) _)
   all_goals exact Aua
  ·have c0:decide (Hz y x < 0)=false:=by rw [BJ]; exact hyl
   simp (maxSteps:=10000000) +contextual -implicitDefEqProofs only [Bk,Bg,St.put,Ap,Al,D8,pl,↓reduceIte,Nat.reduceAdd,D5,Int.reduceAdd,Dq,Bl,norefs,AV.noref,hb,w1,w3,hb2,hb4,hg,x2,c0,Bq,AA]
   refine AD ?_ ?_ (Ax _) (ih2 (by
    rcases DF h (Dx x l) with g | g
    ·exact absurd (hy.2 (hc.2 g)) hyl
    ·exact g) _)
   all_goals exact Aua
 ·obtain rfl:i=Dx x l:=by omega
  obtain rfl:j=Dx x l:=Ah
  have hb:decide (((Dx x l:Nat):Int) < ((Dx x l:Nat):Int))=false:=Br
  clear ih hsf ho
  have hhit:L7 x l=(decide (Dx x l < l.length) && (Hz (l.getD (Dx x l) default) x == 0)):=rfl
  rw [bsA,hhit]
  generalize Dx x l=p at *
  by_cases hpl:p < l.length
  ·have hb2:decide (p < l.length)=true:=by rw [AR]; exact hpl
   have hb3:decide ((p:Int) < ((l.length:Nat):Int))=true:=Aj
   obtain ⟨y,hg⟩:∃ y,l.getD p default=y:=⟨_,rfl⟩
   have x2:=x1 y
   rw [hg,hb2]
   simp only [Bl] at x2
   refine Aa ?_
   refine CL ?_
   exact zG1 (a5 hb hb2 hb3 hg x2)
   all_goals done
  ·have hb2:decide (p < l.length)=false:=by rw [BJ]; exact hpl
   have hb3:decide ((p:Int) < ((l.length:Nat):Int))=false:=Ke
   rw [hb2]
   refine Aa ?_
   refine CL ?_
   exact zG1 (a3 hb hb3 @D0)
   all_goals done
def Mb (c:Cd) (x:Cx) (r:Ru) (w e p f m:Nat):Blk:=⟨true,w,138,18,[.ag [.vw c.zi (c.ins.map BS),.vw c.zs (c.strs.map stA),.vw c.ze (c.ens.map DP),.vw c.zp (c.pri.map (kA .i64)),.vw c.zv (c.vars.map (kA .i64)),.sc (.int .i64 c.tim),.sc (.int .i64 c.evs),
 .vw false (r.s.vars.map (kA .i64)),.sl 3 f 0 r.s.left.length,.sc (.int .u32 r.s.act),.sl 4 m 0 r.s.lamps.length,.sc (.int .i64 r.s.fau),.sc (.int .i64 x.ti),.sc (.int .u64 x.clo),.sc (.int .i64 x.pl'),.sc (.int .i64 x.ba),.sl 1 e 0 r.ef.length,.sl 2 p 0 r.po.length]],false⟩
def C5 (c:Cd) (x:Cx) (r:Ru) (w e p f m:Nat) (R:List Blk):List Blk:=Mb c x r w e p f m::⟨true,e,73,5,r.ef.map Ek,false⟩::⟨true,p,46,3,r.po.map Eh,false⟩::⟨true,f,3,1,r.s.left.map (kA .i64),false⟩::⟨true,m,82,6,r.s.lamps.map BY,false⟩::R
theorem TD {c:Cd} {x:Cx} {r r':Ru} {w e p f m w' e' p' f' m':Nat} {R R':List Blk} (h:C5 c x r w e p f m R=C5 c x r' w' e' p' f' m' R'):KV r=KV r'∧w=w'∧e=e'∧p=p'∧f=f'∧m=m'∧R=R':=by
 obtain ⟨⟨zv,vars,zl,left,act,zm,lamps,fau⟩,ef,po⟩:=r
 obtain ⟨⟨zv',vars',zl',left',act',zm',lamps',fau'⟩,ef',po'⟩:=r'
 simp only [C5,Mb,lx96,Blk.mk.injEq,AV.ag.injEq,AV.sl.injEq,AV.vw.injEq,AV.sc.injEq,Value.int.injEq,Ay,D3] at h
 obtain ⟨⟨rfl,g1,⟨rfl,_⟩,rfl,⟨rfl,_⟩,rfl,⟨rfl,_⟩,rfl,_⟩,g2,g3,g4,g5,rfl⟩:=h
 obtain rfl:=Ie g1
 obtain rfl:=N6.1 g2.2
 obtain rfl:=Th.1 g3.2
 obtain rfl:=Ie g4.2
 obtain rfl:=LP.1 g5.2
 simp [KV]
theorem Nu (c:Cd) (x:Cx) (r:Ru) (hf:0≤r.s.fau∧r.s.fau≤2147483647) (w e p f m:Nat) (R:List Blk) (cnt:Nat):
  HSpec Tryz.prog 105 [.pt 0 w 0 0] (C5 c x r w e p f m R) cnt (.tu []) (C5 c x (JD r) w e p f m R) cnt:=by
 obtain ⟨⟨zv,vars,zl,left,act,zm,lamps,fau⟩,ef,po⟩:=r
 simp only at hf
 have w1:IntKind.i64.wrap (fau+1)=fau+1:=Bd (by omega) (by omega)
 refine Ag (Am (lit:=true) (pm:=fun _=>none) .nil .nil .nil .nil) rfl Tryz.func105 rfl (by decide) (by kernel_rfl) ?_
 simp only [Tryz.f105,Af,lx53,lx63,Nat.reduceAdd,Nat.reduceSub,List.replicate]
 simp only [C5,Mb,JD]
 refine Aa ?_
 refine I5 w1 ?_
 exact WY
structure SetQ (m:Int) (r:Ru):Prop where
 own:0≤m∧m < 32
 so:Hc r.s.lamps
 len:r.s.lamps.length≤90000
theorem Amz (c:Cd) (x:Cx) (mo i:Int) (se:Lm) (r:Ru) (h:SetQ mo r) (hz:BT r.s.act mo=false) (w e p f m:Nat) (R:List Blk) (cnt:Nat):
  HSpec Tryz.prog 208 [.pt 0 w 0 0,.sc (.int .i64 mo),.sc (.int .i64 i),lmA se] (C5 c x r w e p f m R) cnt (.tu []) (C5 c x r w e p f m R) (cnt+1):=by
 obtain ⟨h1,h2,h3⟩:=h
 obtain ⟨⟨zv,vars,zl,left,act,zm,lamps,fau⟩,ef,po⟩:=r
 simp only at hz h2 h3
 have E58:=e58 ⟨false,vars,false,left,act,false,lamps,fau⟩ mo ⟨by omega,by omega⟩
 simp only [AL,hz] at E58
 have tl:(left.map (kA .i64)).take left.length=left.map (kA .i64):=lx118 (by simp)
 have tm:(lamps.map BY).take lamps.length=lamps.map BY:=lx118 (by simp)
 refine Ag (Am (lit:=true) (pm:=fun _=>none) (.cons Ac8 .nil) .nil .nil .nil) rfl Tryz.func208 rfl (by decide) (by kernel_rfl) ?_
 refine Aqv ?_
 refine I5 (a3 E58 tl tm) ?_
 exact WY
theorem Aiz (c:Cd) (x:Cx) (mo i:Int) (se:Lm) (r:Ru) (h:SetQ mo r) (hz:BT r.s.act mo=true) (hh:L7 ⟨mo,i,se⟩ r.s.lamps=true) (w e p f m:Nat) (R:List Blk) (cnt:Nat):
  HSpec Tryz.prog 208 [.pt 0 w 0 0,.sc (.int .i64 mo),.sc (.int .i64 i),lmA se] (C5 c x r w e p f m R) cnt (.tu []) (C5 c x (DU r mo i se) w e p f m R) (cnt+1+1):=by
 have hR:DU r mo i se={ r with s:={ r.s with zm:=false,lamps:=r.s.lamps.set (Dx ⟨mo,i,se⟩ r.s.lamps) ⟨mo,i,se⟩ } }:=by
  rw [DU,if_pos hz,L2 h.so,P6 h.so,if_pos hh]
 rw [hR]
 obtain ⟨h1,h2,h3⟩:=h
 obtain ⟨⟨zv,vars,zl,left,act,zm,lamps,fau⟩,ef,po⟩:=r
 simp only at hz hh h2 h3
 have E58:=e58 ⟨false,vars,false,left,act,false,lamps,fau⟩ mo ⟨by omega,by omega⟩
 have E233:=Ba7 false lamps ⟨mo,i,se⟩ h2 (by omega)
 have hp:Dx ⟨mo,i,se⟩ lamps < lamps.length:=by
  simp only [L7,AH,AR] at hh
  exact hh.1
 obtain ⟨lv,on,off,si⟩:=se
 simp only [AL,Bl,hz,bsA,hh] at E58 E233
 generalize Dx ⟨mo,i,⟨lv,on,off,si⟩⟩ lamps=q at *
 have hq:decide ((q:Int) < ((lamps.length:Nat):Int))=true:=Aj
 have hq2:decide (q < lamps.length)=true:=Aj
 have hm:(lamps.map BY).set q (.ag [.sc (.int .i64 mo),.sc (.int .i64 i),.sc (.int .i64 lv),.sc (.int .i64 on),.sc (.int .i64 off),.sc (.int .i64 si)])=(lamps.set q ⟨mo,i,⟨lv,on,off,si⟩⟩).map BY:=Ym
 have tl:(left.map (kA .i64)).take left.length=left.map (kA .i64):=lx118 (by simp)
 have tm:(lamps.map BY).take lamps.length=lamps.map BY:=lx118 (by simp)
 refine Ag (Am (lit:=true) (pm:=fun _=>none) (.cons Ac8 (.cons Aqe .nil)) .nil .nil .nil) rfl Tryz.func208 rfl (by decide) (by kernel_rfl) ?_
 refine Aqv ?_
 refine I5 (a7 E58 E233 tl tm hq hq2 hm) ?_
 exact WY
theorem Aj0 (c:Cd) (x:Cx) (mo i:Int) (se:Lm) (r:Ru) (h:SetQ mo r) (hz:BT r.s.act mo=true) (hh:L7 ⟨mo,i,se⟩ r.s.lamps=false) (w e p f m:Nat) (R:List Blk) (cnt:Nat):
  HSpec Tryz.prog 208 [.pt 0 w 0 0,.sc (.int .i64 mo),.sc (.int .i64 i),lmA se] (C5 c x r w e p f m R) cnt (.tu []) (C5 c x (DU r mo i se) w e p f (cnt+1+1+1) R) (cnt+1+1+1+1):=by
 have hR:DU r mo i se={ r with s:={ r.s with zm:=false,lamps:=r.s.lamps.take (Dx ⟨mo,i,se⟩ r.s.lamps)++⟨mo,i,se⟩::r.s.lamps.drop (Dx ⟨mo,i,se⟩ r.s.lamps) } }:=by
  rw [DU,if_pos hz,L2 h.so,P6 h.so,if_neg (by rw [hh]; simp)]
 rw [hR]
 obtain ⟨h1,h2,h3⟩:=h
 obtain ⟨⟨zv,vars,zl,left,act,zm,lamps,fau⟩,ef,po⟩:=r
 simp only at hz hh h2 h3
 have E58:=e58 ⟨false,vars,false,left,act,false,lamps,fau⟩ mo ⟨by omega,by omega⟩
 have E233:=Ba7 false lamps ⟨mo,i,se⟩ h2 (by omega)
 have hp:=Aap ⟨mo,i,se⟩ lamps
 obtain ⟨F,kF,E⟩:=D1 (Aix lamps ⟨mo,i,se⟩ (Dx ⟨mo,i,se⟩ lamps) hp (by omega) (C5 c x ⟨⟨zv,vars,zl,left,act,zm,lamps,fau⟩,ef,po⟩ w e p f m (R++[⟨true,cnt,78,4,[lmA se],false⟩,⟨true,cnt+1,82,6,[BY ⟨mo,i,se⟩],false⟩])) 4 m (cnt+1+1) true rfl (cnt+1+1+1))
 obtain ⟨lv,on,off,si⟩:=se
 simp only [AL,Bl,hz,bsA,hh] at E58 E233
 have hlen:(lamps.take (Dx ⟨mo,i,⟨lv,on,off,si⟩⟩ lamps)++⟨mo,i,⟨lv,on,off,si⟩⟩::lamps.drop (Dx ⟨mo,i,⟨lv,on,off,si⟩⟩ lamps)).length=lamps.length+1:=E6
 generalize Dx ⟨mo,i,⟨lv,on,off,si⟩⟩ lamps=q at *
 generalize lamps.take q++⟨mo,i,⟨lv,on,off,si⟩⟩::lamps.drop q=L at *
 simp only [C5,Mb,Bl,ID,lx91,lx64,lx4,lx53,lx5,lx63,lx11,lx117,Nat.reduceAdd,BO] at E
 have tl:(left.map (kA .i64)).take left.length=left.map (kA .i64):=lx118 (by simp)
 have tm:(lamps.map BY).take lamps.length=lamps.map BY:=lx118 (by simp)
 refine Ag (Am (lit:=true) (pm:=fun _=>none) (.cons Ac8 (.cons Aqe .nil)) .nil .nil (.cons kF .nil)) rfl Tryz.func208 rfl (by decide) (by kernel_rfl) ?_
 refine Aqv ?_
 refine I5 (a6 E58 E233 E tl tm hlen) ?_
 exact WY
end Go.Proofs.YtdjpkhjaibdogaaGreat
