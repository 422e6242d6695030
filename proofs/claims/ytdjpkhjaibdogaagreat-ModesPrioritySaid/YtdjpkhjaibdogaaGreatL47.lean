/-
  Lemmas towards ModesPriority (joined texts: FK, FL, FM, FN, FO, FP, FQ, FR, FS, FT, FU, FV, GA, FW).
  Conditions: none.
-/
import Derived.Test.YtdjpkhjaibdogaaGreatL45
import Derived.Test.YtdjpkhjaibdogaaGreatL46
import Derived.Test.YtdjpkhjaibdogaaGreatL01
import Derived.Test.YtdjpkhjaibdogaaGreatL22
import Derived.Test.YtdjpkhjaibdogaaGreatL20
set_option linter.unusedSimpArgs false
set_option linter.unusedVariables false
set_option maxRecDepth 100000
set_option maxHeartbeats 8000000
namespace Go.Proofs.YtdjpkhjaibdogaaGreat
open Go Go.SX
attribute [local congr] ite_congr
def UT (l:List Lo) (m:Int):List Lo:=l.filter fun x=>x.mo != m
def Nt (x:Lo) (p:List Lo × Bool) (y:Lo):List Lo × Bool:=
 let q:=if !p.2 && (decide (x.mo < y.mo) || ((y.mo == x.mo) && decide (x.la≤y.la))) then (p.1++[x],true) else p
 if (y.mo != x.mo) || (y.la != x.la) then (q.1++[y],q.2) else q
def Bbg (l:List Lo) (x:Lo):List Lo:=if (l.foldl (Nt x) ([],false)).2=true then (l.foldl (Nt x) ([],false)).1 else (l.foldl (Nt x) ([],false)).1++[x]
def exQ (p:Cd × Int × Vn):Prop:=ExeQ p.1 p.2.2 p.2.1
noncomputable def f157:=EF exQ (fun p=>[CI p.1,kA .i64 p.2.1,UK p.2.2,kA .i64 1000]) (fun p=>Om (Hn p.1 p.2.2 p.2.1))
theorem Brd (c:Cd) (a:Int) (v:Vn) (h:ExeQ c v a):f157 [CI c,.sc (.int .i64 a),UK v,.sc (.int .i64 1000)]=some (Om (Hn c v a)):=
 (AK (q:=exQ) (enc:=fun p=>[CI p.1,kA .i64 p.2.1,UK p.2.2,kA .i64 1000]) (out:=fun p=>Om (Hn p.1 p.2.2 p.2.1)) (c,a,v) h (by
  rintro ⟨c',a',v'⟩ h
  simp only [lx94,AW] at h
  rw [Dn h.1,BR h.2.1,Afw h.2.2]) :)
theorem Axt:FOk Tryz.prog 157 f157:=Am9 <| by
 rintro ⟨c,a,v⟩ h
 exact Aiz c v a h
structure Ru where
 s:Rs
 ef:List Ef
 po:List Ev
mutual
theorem Au0 (id ver:Nat) (els:List AV):∀ a:AV,a.noref=true→Er id ver els a=a
 | .sl ..,h=>by simp [AV.noref] at h
 | .ag cs,h=>by rw [Er,Qt id ver els cs (by simpa [AV.noref] using h)]
 | .sc _,_=>rfl
 | .tu _,_=>rfl
 | .pt ..,_=>rfl
 | .vw ..,_=>rfl
 | .vp ..,_=>rfl
 | .fn ..,_=>rfl
 | .un,_=>rfl
 | .jk,_=>rfl
theorem Qt (id ver:Nat) (els:List AV):∀ l:List AV,norefs l=true→D3 id ver els l=l
 | [],_=>rfl
 | a::l,h=>by
  simp only [norefs,AH] at h
  rw [D3,Au0 id ver els a h.1,Qt id ver els l h.2]
end
def D7 (n lo hi:Int):Int:=max lo (min n hi)
def onB (act a:Int):Int:=D2 .or .u32 act (Vu .u32 1 a)
def Aa3 (act a:Int):Int:=D2 .andNot .u32 act (Vu .u32 1 a)
def Eh (r:Ru) (m a:Int) (se:Lm):Ru:=if B7 r.s.act m=true then { r with s:={ r.s with zm:=false,lamps:=Bbg r.s.lamps ⟨m,a,se⟩ } } else r
def CO (x:Cx) (m:Int) (e:Ef) (r:Ru):Ru:=
 if e.k=21 then { r with s:={ r.s with zl:=false,left:=r.s.left.set e.a.toNat (D7 e.b 0 2147483647) } }
 else if e.k=22 then { r with s:={ r.s with zl:=false,left:=r.s.left.set e.a.toNat (D7 0 0 2147483647) } }
 else if e.k=23 then (if B7 r.s.act e.a=true then r else { r with s:={ r.s with act:=onB r.s.act e.a },po:=r.po++[⟨1,0,e.a⟩] })
 else if e.k=24 then (if B7 r.s.act e.a=true then { r with s:={ r.s with act:=Aa3 r.s.act e.a,zm:=false,lamps:=UT r.s.lamps e.a },po:=r.po++[⟨2,0,e.a⟩] } else r)
 else if e.k=25 then { r with po:=r.po++[⟨6,e.a,-1⟩] }
 else if e.k=19 then Eh r m e.a ⟨D7 e.b 0 8,0,0,0⟩
 else if e.k=20 then Eh r m e.a ⟨8,D7 e.b 1 1000,D7 e.c 1 1000,x.ti⟩
 else r
structure AppQ (m:Int) (e:Ef) (r:Ru):Prop where
 tim:e.k=21∨e.k=22→0≤e.a∧e.a < r.s.left.length
 mod:e.k=23∨e.k=24→0≤e.a∧e.a < 32
 own:0≤m∧m < 32
 lft:r.s.left.length≤1000
 lam:r.s.lamps.length≤100000
 pos:r.po.length≤1000000
theorem On {l m:List Int} (h:l.map (kA .i64)=m.map (kA .i64)):l=m:=DM (f:=kA .i64) (fun _ _=>BR) h
def Tf (r:Ru):Ru:={ r with s:={ r.s with fau:=min (r.s.fau+1) 2147483647 } }
def Po (l:List Ef) (r:Ru):Ru:={ r with ef:=r.ef++l }
def JD (l:List Int) (r:Ru):Ru:={ r with s:={ r.s with zv:=false,vars:=l } }
def appL (x:Cx) (m:Int) (l:List Ef) (r:Ru):Ru:=l.foldl (fun r f=>CO x m f r) r
def Pp (x:Cx) (m:Int) (r:Ru):Option (List Int × List Ef × Nat)→Ru × Bool
 | none=>(Tf r,false)
 | some y=>(Po y.2.1 (appL x m y.2.1 (JD y.1 r)),y.2.1.any (fun f=>f.k == 30))
def DX (c:Cd) (x:Cx) (m:Int) (ev:Ev) (r:Ru):Ru × Bool:=
 match Eg c m ev.tr ev.ix with
 | none=>(r,false)
 | some en=>Pp x m r (Hn c (DR r.s x) en.pc)
structure OneQ (c:Cd) (x:Cx) (m:Int) (ev:Ev) (r:Ru):Prop where
 fit:Fit c
 fau:0≤r.s.fau∧r.s.fau≤2147483647
 len:r.ef.length≤1000000
 exe:∀ en,Eg c m ev.tr ev.ix=some en→ExeQ c (DR r.s x) en.pc
 app:∀ en,Eg c m ev.tr ev.ix=some en→∀ y,Hn c (DR r.s x) en.pc=some y→y.2.1.length≤256∧∀ i,(h:i < y.2.1.length)→AppQ m (y.2.1[i]) (appL x m (y.2.1.take i) (JD y.1 r))
theorem Aj0 {x:Cx} {m:Int} {l:List Ef} {i:Nat} (h:i < l.length) (r:Ru):appL x m (l.take (i+1)) r=CO x m (l[i]) (appL x m (l.take i) r):=by
 rw [appL,lx109 h,List.foldl_append]; rfl
theorem Aph {l:List Ef} {i:Nat} (h:i < l.length) (q:Ef→Bool):(l.take (i+1)).any q=((l.take i).any q || q l[i]):=by
 rw [lx109 h,List.any_append]; simp
theorem Au1 (x:Cx) (m:Int) (f:Ef) (r:Ru):(CO x m f r).ef=r.ef:=by
 by_cases k21:f.k=21
 ·simp only [CO,k21,↓reduceIte]
 by_cases k22:f.k=22
 ·simp only [CO,k22,Int.reduceEq,↓reduceIte]
 by_cases k23:f.k=23
 ·cases hz:B7 r.s.act f.a <;> simp only [CO,k23,hz,Int.reduceEq,DD,↓reduceIte]
 by_cases k24:f.k=24
 ·cases hz:B7 r.s.act f.a <;> simp only [CO,k24,hz,Int.reduceEq,DD,↓reduceIte]
 by_cases k25:f.k=25
 ·simp only [CO,k25,Int.reduceEq,↓reduceIte]
 by_cases k19:f.k=19
 ·cases hz:B7 r.s.act m <;> simp only [CO,Eh,k19,hz,Int.reduceEq,DD,↓reduceIte]
 by_cases k20:f.k=20
 ·cases hz:B7 r.s.act m <;> simp only [CO,Eh,k20,hz,Int.reduceEq,DD,↓reduceIte]
 simp only [CO,k21,k22,k23,k24,k25,k19,k20,↓reduceIte]
theorem Wx (x:Cx) (m:Int):∀ (l:List Ef) (r:Ru),(appL x m l r).ef=r.ef
 | [],_=>rfl
 | f::l,r=>by
  have:=Wx x m l (CO x m f r)
  rw [Au1] at this
  exact this
theorem Api {α:Type} (P:Nat→α→α→Prop) (n:Nat) (a0:α) (h:∀ i a,i < n→∃ b,P i a b):∃ V:Nat→α,V 0=a0∧∀ i,i < n→P i (V i) (V (i+1)):=by
 classical
 refine ⟨fun k=>Nat.rec a0 (fun i a=>if hi:i < n then Classical.choose (h i a hi) else a) k,rfl,fun i hi=>?_⟩
 simp only [dif_pos hi]
 exact lx93 (h i _ hi)
end Go.Proofs.YtdjpkhjaibdogaaGreat
namespace Go.Proofs.YtdjpkhjaibdogaaGreat
open Go Go.SX
theorem LR {a b:Nat} (ha:a < 2 ^ 32) (hb:b < 2 ^ 32):D2 .and .u32 a b=((a &&& b:Nat):Int):=by
 have h1:(BitVec.ofInt 32 (a:Int)).toNat=a:=V2 32 a ha
 have h2:(BitVec.ofInt 32 (b:Int)).toNat=b:=V2 32 b hb
 have h3:a &&& b < 2 ^ 32:=Nat.and_lt_two_pow a hb
 have:D2 .and .u32 a b=IntKind.u32.wrap (((BitVec.ofInt 32 (a:Int)) &&& (BitVec.ofInt 32 (b:Int))).toNat:Int):=rfl
 rw [this,BitVec.toNat_and,h1,h2,GZ (by omega) (by omega)]
theorem Aj1 {a b:Nat} (ha:a < 2 ^ 32) (hb:b < 2 ^ 32):D2 .or .u32 a b=((a ||| b:Nat):Int):=by
 have h1:(BitVec.ofInt 32 (a:Int)).toNat=a:=V2 32 a ha
 have h2:(BitVec.ofInt 32 (b:Int)).toNat=b:=V2 32 b hb
 have h3:a ||| b < 2 ^ 32:=Nat.or_lt_two_pow ha hb
 have:D2 .or .u32 a b=IntKind.u32.wrap (((BitVec.ofInt 32 (a:Int)) ||| (BitVec.ofInt 32 (b:Int))).toNat:Int):=rfl
 rw [this,BitVec.toNat_or,h1,h2,GZ (by omega) (by omega)]
def Aj2 (a b:Nat):Nat:=(BitVec.ofNat 32 a &&& ~~~ BitVec.ofNat 32 b).toNat
theorem Aca (a b:Nat):D2 .andNot .u32 a b=((Aj2 a b:Nat):Int):=by
 have:D2 .andNot .u32 a b=IntKind.u32.wrap (((BitVec.ofInt 32 (a:Int)) &&& ~~~ (BitVec.ofInt 32 (b:Int))).toNat:Int):=rfl
 rw [this,BitVec.ofInt_natCast,BitVec.ofInt_natCast,GZ (by omega) (by
  have:=(BitVec.ofNat 32 a &&& ~~~ BitVec.ofNat 32 b).isLt
  omega)]
 rfl
theorem Acb {n:Nat} (hn:n < 32):Vu .u32 1 n=((2 ^ n:Nat):Int):=by
 have e:min ((n:Int).toNat) (IntKind.bits .u32)=n:=by
  have:IntKind.bits .u32=32:=rfl
  rw [this]; omega
 have hp:2 ^ n < 2 ^ 32:=Nat.pow_lt_pow_right (by decide) hn
 have e2:(1:Int) * 2 ^ n=((2 ^ n:Nat):Int):=AZ
 rw [Vu,e,e2]
 exact GZ (ND _) (Int.lt_of_lt_of_le (Int.ofNat_lt.2 hp) (by decide))
theorem Acd {a n:Nat} (hn:n < 32):GD .u32 a n=((a >>> n:Nat):Int):=by
 have e:min ((n:Int).toNat) (IntKind.bits .u32)=n:=by
  have:IntKind.bits .u32=32:=rfl
  rw [this]; omega
 have e2:(2:Int) ^ n=((2 ^ n:Nat):Int):=AZ
 rw [GD,e,e2,Int.fdiv_eq_ediv_of_nonneg _ (ND _),Nat.shiftRight_eq_div_pow]
 rfl
theorem Au2 {a n:Nat} (ha:a < 2 ^ 32) (hn:n < 32):B7 a n=a.testBit n:=by
 have h1:a >>> n < 2 ^ 32:=by rw [Nat.shiftRight_eq_div_pow]; exact Nat.lt_of_le_of_lt (Nat.div_le_self _ _) ha
 rw [B7,Acd hn]
 have:D2 .and .u32 ((a >>> n:Nat):Int) ((1:Nat):Int)=((a >>> n &&& 1:Nat):Int):=LR h1 (by omega)
 have e:((1:Nat):Int)=1:=rfl
 rw [e] at this
 rw [this,Nat.testBit]
 rw [Nat.and_comm 1,Nat.and_one_is_mod]
 have:=Qz (a >>> n)
 rcases this with h | h <;> rw [h] <;> rfl
theorem onN {a n:Nat} (ha:a < 2 ^ 32) (hn:n < 32):onB a n=((a ||| 2 ^ n:Nat):Int):=by
 rw [onB,Acb hn,Aj1 ha (Nat.pow_lt_pow_right (by decide) hn)]
theorem Ags {a n:Nat} (hn:n < 32):Aa3 a n=((Aj2 a (2 ^ n):Nat):Int):=by
 rw [Aa3,Acb hn,Aca]
theorem Apj {a n m:Nat} (hn:n < 32) (hm:m < 32) (ha:a < 2 ^ 32):(Aj2 a (2 ^ n)).testBit m=(a.testBit m && !decide (n=m)):=by
 rw [Aj2,←BitVec.getLsbD,BitVec.getLsbD_and,BitVec.getLsbD_not,BitVec.getLsbD_ofNat,BitVec.getLsbD_ofNat,Nat.testBit_two_pow]
 simp [hm]
theorem Agt (a b:Nat):Aj2 a b≤a:=by
 rw [Aj2,BitVec.toNat_and]
 refine Qv Nat.and_le_left ?_
 rw [BitVec.toNat_ofNat]
 exact Nat.mod_le _ _
theorem Apk {a:Int} {n:Nat} (hn:n≤16) (h:GD .u32 a n=0):∃ A:Nat,a=A∧A < 2 ^ n:=by
 have e:min ((n:Int).toNat) (IntKind.bits .u32)=n:=by
  have:IntKind.bits .u32=32:=rfl
  rw [this]; omega
 have e2:(2:Int) ^ n=((2 ^ n:Nat):Int):=AZ
 rw [GD,e,e2,Int.fdiv_eq_ediv_of_nonneg _ (ND _)] at h
 have hp:0 < 2 ^ n:=Nat.pow_pos (by decide)
 have h1:=Int.mul_ediv_add_emod a ((2 ^ n:Nat):Int)
 have h2:=Int.emod_nonneg a (b:=((2 ^ n:Nat):Int)) (by omega)
 have h3:=Int.emod_lt_of_pos a (b:=((2 ^ n:Nat):Int)) (by omega)
 rw [h,Int.mul_zero,Int.zero_add] at h1
 exact ⟨a.toNat,by omega,by omega⟩
theorem UU {A n:Nat} (hn:n≤16) (h:A < 2 ^ n):GD .u32 (A:Int) n=0:=by
 rw [Acd (by omega),Nat.shiftRight_eq_div_pow,Nat.div_eq_of_lt h]; rfl
def DY (a b:Lo):Prop:=a.mo < b.mo∨a.mo=b.mo∧a.la < b.la
instance (a b:Lo):Decidable (DY a b):=by unfold DY; exact inferInstance
def Km (a b:Lo):Prop:=a.mo=b.mo∧a.la=b.la
instance (a b:Lo):Decidable (Km a b):=by unfold Km; exact inferInstance
theorem Jf {a b d:Lo} (h:DY a b) (h':DY b d):DY a d:=by unfold DY at *; omega
theorem Axu (a b:Lo):DY a b∨Km a b∨DY b a:=by unfold DY Km; omega
def Kn (x:Lo):List Lo→List Lo
 | []=>[x]
 | y::l=>if DY y x then y::Kn x l else if Km y x then x::l else x::y::l
abbrev HN (l:List Lo):Prop:=l.Pairwise DY
theorem Oo (x:Lo):∀ (l a:List Lo),(∀ y ∈ l,DY x y)→l.foldl (Nt x) (a,true)=(a++l,true)
 | [],a,_=>by simp
 | y::l,a,h=>by
  have h1:=h y lx47
  have e:Nt x (a,true) y=(a++[y],true):=by
   unfold DY at h1
   have:((y.mo != x.mo) || (y.la != x.la))=true:=by
    rw [ID,bne_iff_ne,bne_iff_ne]; omega
   simp [Nt,this]
  rw [List.foldl_cons,e,Oo x l _ (fun z hz=>h z (lx48 _ hz))]
  simp
theorem UW (x:Lo):∀ (l a:List Lo),HN l→
  (if (l.foldl (Nt x) (a,false)).2=true then (l.foldl (Nt x) (a,false)).1 else (l.foldl (Nt x) (a,false)).1++[x])=a++Kn x l
 | [],a,_=>by simp [Kn]
 | y::l,a,h=>by
  have h:=lx116.1 h
  obtain ⟨h1,h2⟩:=h
  rcases Axu y x with h3 | h3 | h3
  ·have e:Nt x (a,false) y=(a++[y],false):=by
    unfold DY at h3
    have g:((y.mo != x.mo) || (y.la != x.la))=true:=by
     rw [ID,bne_iff_ne,bne_iff_ne]; omega
    have g2:(decide (x.mo < y.mo) || ((y.mo == x.mo) && decide (x.la≤y.la)))=false:=by
     rw [Ju,Cy,Bool.and_eq_false_iff,Cy,lx108]; omega
    simp [Nt,g,g2]
   rw [List.foldl_cons,e,UW x l _ h2,Kn,if_pos h3]
   simp
  ·have h4:∀ z ∈ l,DY x z:=fun z hz=>by
    have:=h1 z hz
    unfold Km at h3; unfold DY at *; omega
   have e:Nt x (a,false) y=(a++[x],true):=by
    unfold Km at h3
    have g:((y.mo != x.mo) || (y.la != x.la))=false:=by
     rw [Ju,bne_eq_false_iff_eq,bne_eq_false_iff_eq]; omega
    exact Bd1
   have n3:¬ DY y x:=by unfold Km at h3; unfold DY; omega
   rw [List.foldl_cons,e,Oo x l _ h4,Kn,if_neg n3,if_pos h3]
   simp
  ·have h4:∀ z ∈ l,DY x z:=fun z hz=>Jf h3 (h1 z hz)
   have e:Nt x (a,false) y=(a++[x]++[y],true):=by
    unfold DY at h3
    have g:((y.mo != x.mo) || (y.la != x.la))=true:=by
     rw [ID,bne_iff_ne,bne_iff_ne]; omega
    exact Bd1
   have n3:¬ DY y x:=by unfold DY at *; omega
   have n4:¬ Km y x:=by unfold Km; unfold DY at h3; omega
   rw [List.foldl_cons,e,Oo x l _ h4,Kn,if_neg n3,if_neg n4]
   simp
theorem Nu {l:List Lo} (h:HN l) (x:Lo):Bbg l x=Kn x l:=by
 have:=UW x l [] h
 rw [lx64] at this
 exact this
theorem SJ {x:Lo}:∀ {l:List Lo} {y:Lo},y ∈ Kn x l→y=x∨y ∈ l
 | [],y,h=>by simp [Kn] at h; exact .inl h
 | z::l,y,h=>by
  rw [Kn] at h
  split at h
  ·rcases lx59.1 h with h | h
   ·exact .inr (h ▸ lx47)
   ·rcases SJ h with h | h
    ·exact .inl h
    ·exact .inr (lx48 _ h)
  ·split at h
   ·rcases lx59.1 h with h | h
    ·exact .inl h
    ·exact .inr (lx48 _ h)
   ·rcases lx59.1 h with h | h
    ·exact .inl h
    ·exact .inr h
theorem Aa4 {x:Lo}:∀ {l:List Lo},HN l→HN (Kn x l)
 | [],_=>by simp [Kn]
 | y::l,h=>by
  have hh:=lx116.1 h
  obtain ⟨h1,h2⟩:=hh
  rw [Kn]
  split
  ·rename_i h3
   refine lx116.2 ⟨fun z hz=>?_,Aa4 h2⟩
   rcases SJ hz with rfl | hz
   ·exact h3
   ·exact h1 z hz
  ·split
   ·rename_i h3
    refine lx116.2 ⟨fun z hz=>?_,h2⟩
    have:=h1 z hz
    unfold Km at h3; unfold DY at *; omega
   ·rename_i n3 n4
    have h3:DY x y:=by
     rcases Axu y x with h | h | h
     ·exact absurd h n3
     ·exact absurd h n4
     ·exact h
    refine lx116.2 ⟨fun z hz=>?_,h⟩
    rcases lx59.1 hz with rfl | hz
    ·exact h3
    ·exact Jf h3 (h1 z hz)
theorem Agu {lo hi:Int}:∀ {l:List Int},l.Pairwise (· < ·)→(∀ x ∈ l,lo≤x∧x < hi)→lo≤hi→(l.length:Int)≤hi - lo
 | [],_,_,h=>by simp; omega
 | x::l,h,hb,hle=>by
  have hh:=lx116.1 h
  have hx:=hb x lx47
  have:=Agu (lo:=x+1) (hi:=hi) hh.2 (fun y hy=>⟨by have:=hh.1 y hy; omega,(hb y (lx48 _ hy)).2⟩) (by omega)
  simp only [lx52]
  omega
theorem Au3 {l:List Lo} (h:HN l) (hb:∀ o ∈ l,0≤o.mo∧o.mo < 16∧0≤o.la∧o.la < 64):l.length≤1024:=by
 have h1:(l.map fun o=>o.mo * 64+o.la).Pairwise (· < ·):=by
  rw [List.pairwise_map]
  refine List.Pairwise.imp_of_mem (fun {a b} ha hb' hab=>?_) h
  have:=hb a ha
  have:=hb b hb'
  unfold DY at hab; omega
 have h2:=Agu (lo:=0) (hi:=1024) h1 (by
  intro x hx
  obtain ⟨o,ho,rfl⟩:=lx35.1 hx
  have:=hb o ho
  omega) (by decide)
 rw [lx57] at h2
 omega
structure EfI (c:Cd) (f:Ef):Prop where
 tim:f.k=21∨f.k=22→0≤f.a∧f.a < c.tim
 mod:f.k=23∨f.k=24→0≤f.a∧f.a < c.pri.length
 lam:f.k=19∨f.k=20→0≤f.a∧f.a < 64
theorem Aj3 (c:Cd) (v:Vn) (x:In) (m:Ms):∀ f ∈ (AM c v x m).ef,f ∈ m.ef∨(f.k=x.op∧(f.a=x.a∨x.op=29)):=by
 obtain ⟨op,a⟩:=x
 have put:∀ n (m:Ms),(IA n m).ef=m.ef:=fun _ _=>rfl
 have pop:∀ (m:Ms),(GV m).ef=m.ef:=fun _=>rfl
 have eff:∀ x (m:Ms) f,f ∈ (No x m).ef→f ∈ m.ef∨f=x:=fun x m f hf=>by
  rcases lx77.1 hf with h | h
  ·exact .inl h
  ·exact .inr (lx70.1 h)
 intro f hf
 rcases Ge op with (rfl | rfl | rfl | rfl | rfl | rfl | rfl | rfl | rfl | rfl | rfl | rfl | rfl | rfl | rfl | rfl | rfl | rfl | rfl | rfl | rfl | rfl | rfl | rfl | rfl | rfl | rfl | rfl | rfl | rfl | rfl) | hno
 rotate_right
 ·have g:∀ k:Int,1≤k→k≤31→(op=k)=False:=fun k h1 h2=>by have:=hno k h1 h2; simpa using this
  simp [AM,opS,g] at hf
  rcases eff _ _ f hf with h | h
  ·exact .inl h
  ·subst h; exact .inr ⟨rfl,.inl rfl⟩
 case inl.inr.inr.inr.inr.inr.inr.inr.inr.inr.inr.inr.inr.inl=>
  exact Aux
 case inl.inr.inr.inr.inr.inr.inr.inr.inr.inr.inr.inr.inr.inr.inl=>
  exact Aux
 all_goals
  simp only [AM,opS,Int.reduceEq,lx8,lx9,↓reduceIte,or_self,or_false,false_or,or_true,true_or] at hf
  first
   | exact .inl hf
   | exact (eff _ _ f hf).elim .inl fun h=>by subst h; exact .inr ⟨rfl,by simp⟩
theorem Bku {c:Cd} {v:Vn} {m:Ms} (hv:AY c=0) (h:MOk c m) (he:∀ f ∈ m.ef,EfI c f):∀ f ∈ (AM c v (AI c m.pc) m).ef,EfI c f:=by
 intro f hf
 rcases Aj3 c v _ m f hf with h1 | ⟨h1,h2⟩
 ·exact he f h1
 ·have hs:=fun hj=>Agi hv h hj
  generalize AI c m.pc=x at h1 h2 hs
  obtain ⟨op,a⟩:=x
  simp only at h1 h2 hs
  refine ⟨fun h3=>?_,fun h3=>?_,fun h3=>?_⟩
  ·exact Ayf
  ·exact Ayf
  ·exact Ayf
theorem Wy {c:Cd} {v:Vn} (hv:AY c=0) (he:EnvI c v):∀ (n:Nat) (m:Ms),(m.dn=false→MOk c m)→(∀ x ∈ m.va,D5 x)→m.va.length=c.vars.length→(∀ f ∈ m.ef,EfI c f)→
  (∀ x ∈ (C1 c v n m).1.va,D5 x)∧(C1 c v n m).1.va.length=c.vars.length∧∀ f ∈ (C1 c v n m).1.ef,EfI c f
 | 0,m,_,h2,h3,h4=>⟨h2,h3,h4⟩
 | n+1,m,h1,h2,h3,h4=>by
  rw [C1]
  split
  ·exact ⟨h2,h3,h4⟩
  ·rename_i hs
   rw [not_or,Hw] at hs
   have hm:=h1 hs.1
   have h4':=Bku (v:=v) hv hm h4
   by_cases h31:(AI c m.pc).op=31
   ·have e:AM c v (AI c m.pc) m={ m with pc:=m.pc+1,dn:=true }:=by simp [AM,opS,h31]
    rw [e] at h4' ⊢
    exact Wy hv he n _ (fun h=>by cases h) h2 h3 h4'
   ·have hn:=Z9 hv he hm h31
    exact Wy hv he n _ (fun _=>hn) hn.va hn.vl h4'
theorem Ace {c:Cd} {v:Vn} {at':Int} (h:ExeQ c v at') {y:List Int × List Ef × Nat} (hy:Hn c v at'=some y):
  (∀ x ∈ y.1,D5 x)∧y.1.length=c.vars.length∧y.2.1.length≤256∧∀ f ∈ y.2.1,EfI c f:=by
 have hv:=Ix h.env
 obtain ⟨he,h2,h3⟩:=Ape h.env
 have hm:=Apf h
 have key:=fun n=>Wy hv he n (L0 v at') (fun _=>hm) h2 h3 (fun f hf=>absurd hf (by simp [L0]))
 obtain ⟨B,hB⟩:∃ B:Nat,B=1000:=⟨_,rfl⟩
 have hx:Hn c v at'=if (C1 c v B (L0 v at')).1.dn=true∧(C1 c v B (L0 v at')).1.ef.length≤256 then
  some ((C1 c v B (L0 v at')).1.va,(C1 c v B (L0 v at')).1.ef,(C1 c v B (L0 v at')).2) else none:=by rw [hB]; rfl
 rw [hx] at hy
 have hk:=key B
 by_cases hc:(C1 c v B (L0 v at')).1.dn=true∧(C1 c v B (L0 v at')).1.ef.length≤256
 ·rw [if_pos hc] at hy
  cases hy
  exact ⟨hk.1,hk.2.1,hc.2,hk.2.2⟩
 ·rw [if_neg hc] at hy; cases hy
def LoI (c:Cd) (act:Int) (o:Lo):Prop:=(0≤o.mo∧o.mo < c.pri.length)∧B7 act o.mo=true∧(0≤o.la∧o.la < 64)∧O6 o.se=true
def CxI (x:Cx):Prop:=(0≤x.ti∧x.ti≤1099511627776)∧(0≤x.pl'∧x.pl'≤2147483647)∧0≤x.ba∧x.ba≤2147483647
structure RuI (c:Cd) (x:Cx) (r:Ru):Prop where
 val:AY c=0
 fit:Fit c
 cx:CxI x
 vl:r.s.vars.length=c.vars.length
 va:∀ y ∈ r.s.vars,D5 y
 ll:(r.s.left.length:Int)=c.tim
 lf:∀ y ∈ r.s.left,0≤y∧y≤2147483647
 ac:∃ A:Nat,r.s.act=A∧A < 2 ^ c.pri.length
 fa:0≤r.s.fau∧r.s.fau≤2147483647
 lo:∀ o ∈ r.s.lamps,LoI c r.s.act o
 so:HN r.s.lamps
theorem Apl {n:Nat} (hn:n≤16):2 ^ n < 2 ^ 32:=Nat.pow_lt_pow_right (by decide) (by omega)
theorem Bbh {A n:Nat} (hA:A < 2 ^ n) (hn:n≤16) {a b:Int} (ha:0≤a∧a < n) (hb:0≤b∧b < n):B7 (onB A a) b=(B7 A b || decide (a=b)):=by
 obtain ⟨i,rfl⟩:=Jh ha.1
 obtain ⟨j,rfl⟩:=Jh hb.1
 have hA':A < 2 ^ 32:=Nat.lt_trans hA (Apl hn)
 have hp:2 ^ i < 2 ^ 32:=Nat.pow_lt_pow_right (by decide) (by omega)
 rw [onN hA' (by omega),Au2 (Nat.or_lt_two_pow hA' hp) (by omega),Au2 hA' (by omega),Nat.testBit_or,Nat.testBit_two_pow]
 congr 1
 rw [decide_eq_decide]; omega
theorem Au4 {A n:Nat} (hA:A < 2 ^ n) (hn:n≤16) {a b:Int} (ha:0≤a∧a < n) (hb:0≤b∧b < n):B7 (Aa3 A a) b=(B7 A b && !decide (a=b)):=by
 obtain ⟨i,rfl⟩:=Jh ha.1
 obtain ⟨j,rfl⟩:=Jh hb.1
 have hA':A < 2 ^ 32:=Nat.lt_trans hA (Apl hn)
 rw [Ags (by omega),Au2 (Nat.lt_of_le_of_lt (Agt _ _) hA') (by omega),Au2 hA' (by omega),Apj (by omega) (by omega) hA']
 congr 2
 rw [decide_eq_decide]; omega
theorem Bkv {A n:Nat} (hA:A < 2 ^ n) (hn:n≤16) {a:Int} (ha:0≤a∧a < n):∃ B:Nat,onB A a=B∧B < 2 ^ n:=by
 obtain ⟨i,rfl⟩:=Jh ha.1
 exact ⟨_,onN (Nat.lt_trans hA (Apl hn)) (by omega),Nat.or_lt_two_pow hA (Nat.pow_lt_pow_right (by decide) (by omega))⟩
theorem Bbi {A n:Nat} (hA:A < 2 ^ n) (hn:n≤16) {a:Int} (ha:0≤a∧a < n):∃ B:Nat,Aa3 A a=B∧B < 2 ^ n:=by
 obtain ⟨i,rfl⟩:=Jh ha.1
 exact ⟨_,Ags (by omega),Nat.lt_of_le_of_lt (Agt _ _) hA⟩
theorem RuI.env {c:Cd} {x:Cx} {r:Ru} (h:RuI c x r):H4 c (DR r.s x)=true:=by
 obtain ⟨A,hA,hA2⟩:=h.ac
 have hl:=CK h.val
 have hb:∀ lo n,lo≤n→n≤2147483647→GH lo n=false:=fun lo n h1 h2=>by
  simp only [GH,Ju,Cy]; omega
 have hsh:GD .u32 r.s.act (c.pri.length:Int)=0:=by rw [hA]; exact UU (by omega) hA2
 have ha:∀ (l:List Int) lo,(∀ y ∈ l,lo≤y∧y≤2147483647)→l.any (GH lo)=false:=fun l lo hy=>by
  rw [lx95]
  intro y hy'
  rw [hb lo y (hy y hy').1 (hy y hy').2]; simp
 have h1:=ha r.s.vars (-2147483647) h.va
 have h2:=ha r.s.left 0 h.lf
 have h3:=hb 0 x.pl' h.cx.2.1.1 h.cx.2.1.2
 have h4:=hb 0 x.ba h.cx.2.2.1 h.cx.2.2.2
 have h5:((r.s.vars.length:Int) == c.vars.length)=true:=by rw [lx86]; exact_mod_cast h.vl
 have h6:((r.s.left.length:Int) == c.tim)=true:=by rw [lx86]; exact h.ll
 have h0:(AY c == 0)=true:=by rw [h.val]; rfl
 simp only [H4,DR,h0,h1,h2,h3,h4,h5,h6,hsh]
 rfl
theorem RuI.lmp {c:Cd} {x:Cx} {r:Ru} (h:RuI c x r):r.s.lamps.length≤1024:=by
 have hl:=CK h.val
 exact Au3 h.so fun o ho=>by
  obtain ⟨h1,_,h2,_⟩:=h.lo o ho
  omega
theorem RuI.app {c:Cd} {x:Cx} {r:Ru} (h:RuI c x r) {m:Int} (hm:0≤m∧m < c.pri.length) {f:Ef} (hf:EfI c f) (hp:r.po.length≤1000000):AppQ m f r:=by
 have hl:=CK h.val
 have hn:=h.lmp
 have hq:=h.ll
 exact ⟨fun hk=>by have:=hf.tim hk; omega,fun hk=>by have:=hf.mod hk; omega,by omega,by omega,by omega,hp⟩
theorem KN {n lo hi:Int} (h:lo≤hi):lo≤D7 n lo hi∧D7 n lo hi≤hi:=by unfold D7; omega
theorem Au5 {P:Int→Prop} {l:List Int} (h:∀ y ∈ l,P y) (i:Nat) {v:Int} (hv:P v):∀ y ∈ l.set i v,P y:=fun y hy=>by
 rcases List.mem_or_eq_of_mem_set hy with h1 | h1
 ·exact h y h1
 ·rw [h1]; exact hv
theorem Apm {c:Cd} {x:Cx} {r:Ru} (h:RuI c x r) {m a:Int} {se:Lm} (hm:0≤m∧m < c.pri.length) (ha:0≤a∧a < 64) (hs:O6 se=true):RuI c x (Eh r m a se):=by
 unfold Eh
 by_cases hz:B7 r.s.act m=true
 ·rw [if_pos hz]
  refine ⟨h.val,h.fit,h.cx,h.vl,h.va,h.ll,h.lf,h.ac,h.fa,fun o ho=>?_,?_⟩
  ·simp only [Nu h.so] at ho
   rcases SJ ho with rfl | ho
   ·exact ⟨hm,hz,ha,hs⟩
   ·exact h.lo o ho
  ·simp only [Nu h.so]; exact Aa4 h.so
 ·rw [if_neg hz]; exact h
theorem Bbj {c:Cd} {x:Cx} {r:Ru} (h:RuI c x r) {m:Int} (hm:0≤m∧m < c.pri.length) {f:Ef} (hf:EfI c f):RuI c x (CO x m f r):=by
 have hl:=CK h.val
 obtain ⟨A,hA,hA2⟩:=h.ac
 unfold CO
 by_cases k21:f.k=21
 ·rw [if_pos k21]
  exact Bda
 rw [if_neg k21]
 by_cases k22:f.k=22
 ·rw [if_pos k22]
  exact Bda
 rw [if_neg k22]
 by_cases k23:f.k=23
 ·rw [if_pos k23]
  have ha:=hf.mod (.inl k23)
  by_cases hz:B7 r.s.act f.a=true
  ·rw [if_pos hz]; exact h
  ·rw [if_neg hz]
   refine ⟨h.val,h.fit,h.cx,h.vl,h.va,h.ll,h.lf,?_,h.fa,fun o ho=>?_,h.so⟩
   ·simp only [hA]; exact Bkv hA2 (by omega) ha
   ·obtain ⟨g1,g2,g3⟩:=h.lo o ho
    refine ⟨g1,?_,g3⟩
    simp only [hA] at g2 ⊢
    rw [Bbh hA2 (by omega) ha g1,g2]; rfl
 rw [if_neg k23]
 by_cases k24:f.k=24
 ·rw [if_pos k24]
  have ha:=hf.mod (.inr k24)
  by_cases hz:B7 r.s.act f.a=true
  ·rw [if_pos hz]
   refine ⟨h.val,h.fit,h.cx,h.vl,h.va,h.ll,h.lf,?_,h.fa,fun o ho=>?_,h.so.filter _⟩
   ·simp only [hA]; exact Bbi hA2 (by omega) ha
   ·obtain ⟨ho,hne⟩:=List.mem_filter.1 ho
    obtain ⟨g1,g2,g3⟩:=h.lo o ho
    refine ⟨g1,?_,g3⟩
    simp only [hA] at g2 ⊢
    rw [Au4 hA2 (by omega) ha g1,g2]
    have:f.a≠o.mo:=fun e=>by rw [bne_iff_ne] at hne; exact hne e.symm
    simp [this]
  ·rw [if_neg hz]; exact h
 rw [if_neg k24]
 by_cases k25:f.k=25
 ·rw [if_pos k25]
  exact ⟨h.val,h.fit,h.cx,h.vl,h.va,h.ll,h.lf,h.ac,h.fa,h.lo,h.so⟩
 rw [if_neg k25]
 by_cases k19:f.k=19
 ·rw [if_pos k19]
  refine Apm h hm (hf.lam (.inl k19)) ?_
  have:=KN (n:=f.b) (lo:=0) (hi:=8) (by decide)
  exact AA ⟨this.1,this.2,⟨Int.le_refl 0,(by decide:(0:Int)≤1099511627776)⟩,Int.le_refl 0,(by decide:(0:Int)≤1000),.inl ⟨rfl,rfl⟩⟩
 rw [if_neg k19]
 by_cases k20:f.k=20
 ·rw [if_pos k20]
  refine Apm h hm (hf.lam (.inr k20)) ?_
  have h1:=KN (n:=f.b) (lo:=1) (hi:=1000) (by decide)
  have h2:=KN (n:=f.c) (lo:=1) (hi:=1000) (by decide)
  have h3:=h.cx.1
  exact AA ⟨(by decide:(0:Int)≤8),Int.le_refl 8,h3,by simp only; omega,h2.2,.inr ⟨by simp only; omega,h1⟩⟩
 rw [if_neg k20]
 exact h
theorem Au6 (x:Cx) (m:Int) (f:Ef) (r:Ru):(CO x m f r).po.length≤r.po.length+1:=by
 have hp:∀ e:Ev,(r.po++[e]).length≤r.po.length+1:=fun e=>by simp
 by_cases k21:f.k=21
 ·simp only [CO,k21,↓reduceIte]; omega
 by_cases k22:f.k=22
 ·simp only [CO,k22,Int.reduceEq,↓reduceIte]; omega
 by_cases k23:f.k=23
 ·cases hz:B7 r.s.act f.a <;> simp only [CO,k23,hz,Int.reduceEq,DD,↓reduceIte,hp] <;> omega
 by_cases k24:f.k=24
 ·cases hz:B7 r.s.act f.a <;> simp only [CO,k24,hz,Int.reduceEq,DD,↓reduceIte,hp] <;> omega
 by_cases k25:f.k=25
 ·simp only [CO,k25,Int.reduceEq,↓reduceIte,hp]
 by_cases k19:f.k=19
 ·cases hz:B7 r.s.act m <;> simp only [CO,Eh,k19,hz,Int.reduceEq,DD,↓reduceIte] <;> omega
 by_cases k20:f.k=20
 ·cases hz:B7 r.s.act m <;> simp only [CO,Eh,k20,hz,Int.reduceEq,DD,↓reduceIte] <;> omega
 simp only [CO,k21,k22,k23,k24,k25,k19,k20,↓reduceIte]; omega
theorem Wz {c:Cd} {x:Cx} {m:Int} (hm:0≤m∧m < c.pri.length):∀ (l:List Ef) {r:Ru},RuI c x r→(∀ f ∈ l,EfI c f)→RuI c x (appL x m l r)
 | [],_,h,_=>h
 | f::l,r,h,hf=>Wz hm l (Bbj h hm (hf f lx47)) (fun g hg=>hf g (lx48 _ hg))
theorem Qu (x:Cx) (m:Int):∀ (l:List Ef) (r:Ru),(appL x m l r).po.length≤r.po.length+l.length
 | [],_=>Av _
 | f::l,r=>by
  have h1:=Qu x m l (CO x m f r)
  have h2:=Au6 x m f r
  have e:appL x m (f::l) r=appL x m l (CO x m f r):=rfl
  rw [e,lx52]; omega
theorem Apn {c:Cd} {x:Cx} {r:Ru} (h:RuI c x r) {l:List Int} (h1:∀ y ∈ l,D5 y) (h2:l.length=c.vars.length):RuI c x (JD l r):=
 ⟨h.val,h.fit,h.cx,h2,h1,h.ll,h.lf,h.ac,h.fa,h.lo,h.so⟩
theorem Bkw {c:Cd} {x:Cx} {r:Ru} (h:RuI c x r):RuI c x (Tf r):=by
 have:=h.fa
 exact ⟨h.val,h.fit,h.cx,h.vl,h.va,h.ll,h.lf,h.ac,by simp only [Tf]; omega,h.lo,h.so⟩
theorem RuI.exe {c:Cd} {x:Cx} {r:Ru} (h:RuI c x r) {m tr ix:Int} {en:En} (he:Eg c m tr ix=some en):ExeQ c (DR r.s x) en.pc:=
 ⟨h.fit,h.env,en,List.mem_of_find?_eq_some he,rfl⟩
theorem RuI.one {c:Cd} {x:Cx} {r:Ru} (h:RuI c x r) {m:Int} (hm:0≤m∧m < c.pri.length) (ev:Ev) (he:r.ef.length≤1000000) (hp:r.po.length≤900000):OneQ c x m ev r:=by
 refine ⟨h.fit,h.fa,he,fun en hn=>h.exe hn,fun en hn y hy=>?_⟩
 obtain ⟨g1,g2,g3,g4⟩:=Ace (h.exe hn) hy
 refine ⟨g3,fun i hi=>?_⟩
 have h1:=Apn h g1 g2
 have h2:=Wz hm (y.2.1.take i) h1 (fun f hf=>g4 f (lx38 hf))
 refine h2.app hm (g4 _ (lx89 hi)) ?_
 have h3:=Qu x m (y.2.1.take i) (JD y.1 r)
 rw [lx68] at h3
 have h4:(JD y.1 r).po.length=r.po.length:=rfl
 omega
theorem Bbk {c:Cd} {x:Cx} {r:Ru} (h:RuI c x r) {m:Int} (hm:0≤m∧m < c.pri.length) (ev:Ev):
  RuI c x (DX c x m ev r).1∧(DX c x m ev r).1.ef.length≤r.ef.length+256∧(DX c x m ev r).1.po.length≤r.po.length+256:=by
 rw [DX]
 cases hn:Eg c m ev.tr ev.ix with
 | none=>exact ⟨h,by simp,by simp⟩
 | some en=>
  simp only
  cases hy:Hn c (DR r.s x) en.pc with
  | none=>exact ⟨Bkw h,by simp [Pp,Tf],by simp [Pp,Tf]⟩
  | some y=>
   obtain ⟨g1,g2,g3,g4⟩:=Ace (h.exe hn) hy
   have h2:=Wz hm y.2.1 (Apn h g1 g2) g4
   have h3:=Qu x m y.2.1 (JD y.1 r)
   have h4:(JD y.1 r).po.length=r.po.length:=rfl
   have h5:=Wx x m y.2.1 (JD y.1 r)
   have h6:(JD y.1 r).ef=r.ef:=rfl
   refine ⟨⟨h2.val,h2.fit,h2.cx,h2.vl,h2.va,h2.ll,h2.lf,h2.ac,h2.fa,h2.lo,h2.so⟩,?_,?_⟩
   ·simp only [Pp,Po,lx7,h5,h6]; omega
   ·simp only [Pp,Po]; omega
end Go.Proofs.YtdjpkhjaibdogaaGreat
namespace Go.Proofs.YtdjpkhjaibdogaaGreat
open Go Go.SX
attribute [local congr] ite_congr
def NC (c:Cd) (x:Cx) (ev:Ev) (a0:Int) (r:Ru) (m:Nat):Ru × Bool:=if B7 a0 m=true∧B7 r.s.act m=true then DX c x m ev r else (r,false)
def KU (c:Cd) (x:Cx) (ev:Ev) (a0:Int):List Nat→Ru→Ru
 | [],r=>r
 | m::l,r=>if (NC c x ev a0 r m).2=true then (NC c x ev a0 r m).1 else KU c x ev a0 l (NC c x ev a0 r m).1
def IC (c:Cd) (x:Cx) (ev:Ev) (r:Ru):Ru:=if 0≤ev.mo then (DX c x ev.mo ev r).1 else KU c x ev r.s.act (Ht c) r
def LS (c:Cd) (x:Cx) (ev:Ev) (a0:Int) (l:List Nat) (r:Ru):Ru:=l.foldl (fun r m=>(NC c x ev a0 r m).1) r
theorem Aa5 {c:Cd} {x:Cx} {ev:Ev} {a0:Int} {l:List Nat} {i:Nat} (h:i < l.length) (r:Ru):LS c x ev a0 (l.take (i+1)) r=(NC c x ev a0 (LS c x ev a0 (l.take i) r) l[i]).1:=by
 rw [LS,lx109 h,List.foldl_append]; rfl
theorem Bkx {c:Cd} {x:Cx} {r:Ru} (h:RuI c x r) {m:Nat} (hm:m < c.pri.length) (ev:Ev) (a0:Int):
  RuI c x (NC c x ev a0 r m).1∧(NC c x ev a0 r m).1.ef.length≤r.ef.length+256∧(NC c x ev a0 r m).1.po.length≤r.po.length+256:=by
 unfold NC
 by_cases hz:B7 a0 m=true∧B7 r.s.act m=true
 ·rw [if_pos hz]; exact Bbk h ⟨by omega,by omega⟩ ev
 ·rw [if_neg hz]; exact ⟨h,by simp,by simp⟩
theorem Axv {c:Cd} {x:Cx} {ev:Ev} {a0:Int}:∀ (l:List Nat) {r:Ru},RuI c x r→(∀ m ∈ l,m < c.pri.length)→
  RuI c x (LS c x ev a0 l r)∧(LS c x ev a0 l r).ef.length≤r.ef.length+256 * l.length∧(LS c x ev a0 l r).po.length≤r.po.length+256 * l.length
 | [],r,h,_=>⟨h,by simp [LS],by simp [LS]⟩
 | m::l,r,h,hl=>by
  obtain ⟨g1,g2,g3⟩:=Bkx h (hl m lx47) ev a0
  obtain ⟨k1,k2,k3⟩:=Axv (ev:=ev) (a0:=a0) l g1 (fun m' hm'=>hl m' (lx48 _ hm'))
  have e:LS c x ev a0 (m::l) r=LS c x ev a0 l (NC c x ev a0 r m).1:=rfl
  rw [e,lx52]
  exact ⟨k1,by omega,by omega⟩
theorem Aa6 (c:Cd) (x:Cx) (ev:Ev) (a0:Int):∀ (l:List Nat) (r:Ru),∃ K,K≤l.length∧(∀ j,(h:j < l.length)→j < K→(NC c x ev a0 (LS c x ev a0 (l.take j) r) l[j]).2=false)∧
  ((K=l.length∧KU c x ev a0 l r=LS c x ev a0 (l.take K) r)∨(∃ h:K < l.length,(NC c x ev a0 (LS c x ev a0 (l.take K) r) l[K]).2=true∧KU c x ev a0 l r=LS c x ev a0 (l.take (K+1)) r))
 | [],r=>⟨0,Av _,fun j h=>absurd h (by simp),.inl ⟨rfl,rfl⟩⟩
 | m::l,r=>by
  by_cases hz:(NC c x ev a0 r m).2=true
  ·exact ⟨0,Bq _,fun j _ h=>absurd h (by omega),.inr ⟨by simp,hz,by rw [KU,if_pos hz]; rfl⟩⟩
  ·obtain ⟨K,h1,h2,h3⟩:=Aa6 c x ev a0 l (NC c x ev a0 r m).1
   refine ⟨K+1,by simp; omega,fun j hj hK=>?_,?_⟩
   ·cases j with
    | zero=>exact (Hw _).mp hz
    | succ j=>exact h2 j (by simpa using hj) (by omega)
   ·rw [KU,if_neg hz]
    rcases h3 with ⟨g1,g2⟩ | ⟨g0,g1,g2⟩
    ·exact .inl ⟨by simp [g1],g2⟩
    ·exact .inr ⟨by simp; omega,g1,g2⟩
def PoI (c:Cd) (l:List Ev):Prop:=∀ e ∈ l,e.mo < c.pri.length
theorem PoI.add {c:Cd} {l:List Ev} (h:PoI c l) {e:Ev} (he:e.mo < c.pri.length):PoI c (l++[e]):=fun d hd=>by
 rcases lx77.1 hd with hd | hd
 ·exact h d hd
 ·rw [lx70.1 hd]; exact he
theorem PoI.app {c:Cd} {l m:List Ev} (h:PoI c l) (k:PoI c m):PoI c (l++m):=fun d hd=>by
 rcases lx77.1 hd with hd | hd
 ·exact h d hd
 ·exact k d hd
structure QuI (c:Cd) (x:Cx) (n0 e0 i:Nat) (q:Ru × List Ev):Prop where
 ru:RuI c x q.1
 po:PoI c q.2
 ef:q.1.ef.length≤e0+4096 * i
 le:q.2.length≤n0+4096 * i
 pl:q.1.po.length≤4096
end Go.Proofs.YtdjpkhjaibdogaaGreat
namespace Go.Proofs.YtdjpkhjaibdogaaGreat
open Go Go.SX
structure Mor (c:Cd) (x:Cx) (φ:Ru→Ru):Prop where
 act:∀ r,(φ r).s.act=r.s.act
 exe:∀ r pc,Hn c (DR (φ r).s x) pc=Hn c (DR r.s x) pc
 app:∀ m f r,CO x m f (φ r)=φ (CO x m f r)
 fau:∀ r,Tf (φ r)=φ (Tf r)
 add:∀ l r,Po l (φ r)=φ (Po l r)
 var:∀ l r,JD l (φ r)=φ (JD l r)
theorem Mor.appL {c:Cd} {x:Cx} {φ:Ru→Ru} (h:Mor c x φ) (m:Int):∀ (l:List Ef) (r:Ru),appL x m l (φ r)=φ (appL x m l r)
 | [],_=>rfl
 | f::l,r=>by
  have e:∀ r,Go.Proofs.YtdjpkhjaibdogaaGreat.appL x m (f::l) r=Go.Proofs.YtdjpkhjaibdogaaGreat.appL x m l (CO x m f r):=fun _=>rfl
  rw [e,e,h.app,h.appL m l]
theorem Mor.one {c:Cd} {x:Cx} {φ:Ru→Ru} (h:Mor c x φ) (m:Int) (ev:Ev) (r:Ru):DX c x m ev (φ r)=(φ (DX c x m ev r).1,(DX c x m ev r).2):=by
 rw [DX,DX]
 cases hn:Eg c m ev.tr ev.ix with
 | none=>rfl
 | some en=>
  simp only [h.exe]
  cases hy:Hn c (DR r.s x) en.pc with
  | none=>simp only [Pp,h.fau]
  | some y=>simp only [Pp,h.var,h.appL,h.add]
theorem Mor.st {c:Cd} {x:Cx} {φ:Ru→Ru} (h:Mor c x φ) (ev:Ev) (a0:Int) (r:Ru) (m:Nat):NC c x ev a0 (φ r) m=(φ (NC c x ev a0 r m).1,(NC c x ev a0 r m).2):=by
 unfold NC
 rw [h.act]
 by_cases hz:B7 a0 m=true∧B7 r.s.act m=true
 ·rw [if_pos hz,if_pos hz]; exact h.one m ev r
 ·rw [if_neg hz,if_neg hz]
theorem Mor.han {c:Cd} {x:Cx} {φ:Ru→Ru} (h:Mor c x φ) (ev:Ev) (a0:Int):∀ (l:List Nat) (r:Ru),KU c x ev a0 l (φ r)=φ (KU c x ev a0 l r)
 | [],_=>rfl
 | m::l,r=>by
  rw [KU,KU,h.st]
  by_cases hz:(NC c x ev a0 r m).2=true
  ·simp only [if_pos hz]
  ·simp only [if_neg hz]; exact h.han ev a0 l _
theorem Mor.hand {c:Cd} {x:Cx} {φ:Ru→Ru} (h:Mor c x φ) (ev:Ev) (r:Ru):IC c x ev (φ r)=φ (IC c x ev r):=by
 unfold IC
 by_cases h0:0≤ev.mo
 ·rw [if_pos h0,if_pos h0,h.one]
 ·rw [if_neg h0,if_neg h0,h.act,h.han]
theorem Au7 {x:Cx} {φ:Ru→Ru} (h1:∀ r,(φ r).s.act=r.s.act)
  (left:∀ r (g:List Int→List Int),{ φ r with s:={ (φ r).s with zl:=false,left:=g (φ r).s.left } }=φ { r with s:={ r.s with zl:=false,left:=g r.s.left } })
  (on:∀ r a e,{ φ r with s:={ (φ r).s with act:=a },po:=(φ r).po++[e] }=φ { r with s:={ r.s with act:=a },po:=r.po++[e] })
  (off:∀ r a (g:List Lo→List Lo) e,{ φ r with s:={ (φ r).s with act:=a,zm:=false,lamps:=g (φ r).s.lamps },po:=(φ r).po++[e] }=φ { r with s:={ r.s with act:=a,zm:=false,lamps:=g r.s.lamps },po:=r.po++[e] })
  (post:∀ r e,{ φ r with po:=(φ r).po++[e] }=φ { r with po:=r.po++[e] })
  (lamp:∀ r (g:List Lo→List Lo),{ φ r with s:={ (φ r).s with zm:=false,lamps:=g (φ r).s.lamps } }=φ { r with s:={ r.s with zm:=false,lamps:=g r.s.lamps } }):
  ∀ m f r,CO x m f (φ r)=φ (CO x m f r):=by
 intro m f r
 have hl:∀ a se,Eh (φ r) m a se=φ (Eh r m a se):=fun a se=>by
  unfold Eh
  rw [h1]
  by_cases hz:B7 r.s.act m=true
  ·rw [if_pos hz,if_pos hz]; exact lamp r (fun l=>Bbg l ⟨m,a,se⟩)
  ·rw [if_neg hz,if_neg hz]
 unfold CO
 by_cases k21:f.k=21
 ·rw [if_pos k21,if_pos k21]; exact left r (fun l=>l.set f.a.toNat (D7 f.b 0 2147483647))
 rw [if_neg k21,if_neg k21]
 by_cases k22:f.k=22
 ·rw [if_pos k22,if_pos k22]; exact left r (fun l=>l.set f.a.toNat (D7 0 0 2147483647))
 rw [if_neg k22,if_neg k22]
 by_cases k23:f.k=23
 ·rw [if_pos k23,if_pos k23,h1]
  by_cases hz:B7 r.s.act f.a=true
  ·rw [if_pos hz,if_pos hz]
  ·rw [if_neg hz,if_neg hz]; exact on r _ _
 rw [if_neg k23,if_neg k23]
 by_cases k24:f.k=24
 ·rw [if_pos k24,if_pos k24,h1]
  by_cases hz:B7 r.s.act f.a=true
  ·rw [if_pos hz,if_pos hz]; exact off r _ (fun l=>UT l f.a) _
  ·rw [if_neg hz,if_neg hz]
 rw [if_neg k24,if_neg k24]
 by_cases k25:f.k=25
 ·rw [if_pos k25,if_pos k25]; exact post r _
 rw [if_neg k25,if_neg k25]
 by_cases k19:f.k=19
 ·rw [if_pos k19,if_pos k19]; exact hl _ _
 rw [if_neg k19,if_neg k19]
 by_cases k20:f.k=20
 ·rw [if_pos k20,if_pos k20]; exact hl _ _
 rw [if_neg k20,if_neg k20]
def UX (r:Ru):Ru:={ r with s:={ r.s with zv:=false,zl:=false,zm:=false } }
theorem Aj4 (c:Cd) (v v':Vn) (h1:v.left=v'.left) (h2:v.clo=v'.clo) (h3:v.act=v'.act) (h4:v.pl'=v'.pl') (h5:v.ba=v'.ba) (y:In) (m:Ms):AM c v y m=AM c v' y m:=by
 unfold AM opS
 rw [h1,h2,h3,h4,h5]
theorem Aa7 (c:Cd) (v v':Vn) (h1:v.left=v'.left) (h2:v.clo=v'.clo) (h3:v.act=v'.act) (h4:v.pl'=v'.pl') (h5:v.ba=v'.ba):∀ n m,C1 c v n m=C1 c v' n m
 | 0,_=>rfl
 | n+1,m=>by
  rw [C1,C1,Aj4 c v v' h1 h2 h3 h4 h5,Aa7 c v v' h1 h2 h3 h4 h5 n]
theorem Apo (c:Cd) (v v':Vn) (h0:v.vars=v'.vars) (h1:v.left=v'.left) (h2:v.clo=v'.clo) (h3:v.act=v'.act) (h4:v.pl'=v'.pl') (h5:v.ba=v'.ba) (pc:Int):Hn c v pc=Hn c v' pc:=by
 have e:L0 v pc=L0 v' pc:=by rw [L0,L0,h0]
 unfold Hn
 rw [Aa7 c v v' h1 h2 h3 h4 h5,e]
theorem Jg (c:Cd) (x:Cx):Mor c x (fun r=>UX r) where
 act _:=rfl
 exe r pc:=Apo c (DR (UX r).s x) (DR r.s x) rfl rfl rfl rfl rfl rfl pc
 app:=Au7 (fun _=>rfl) (fun _ _=>rfl) (fun _ _ _=>rfl) (fun _ _ _ _=>rfl) (fun _ _=>rfl) (fun _ _=>rfl)
 fau _:=rfl
 add _ _:=rfl
 var _ _:=rfl
theorem SK {a b:Lo}:Jz a b < 0↔DY a b:=Asu a b
theorem Agv:∀ {l:List Lo},(∀ i,i+1 < l.length→DY (l.getD i default) (l.getD (i+1) default))→HN l
 | [],_=>List.Pairwise.nil
 | [x],_=>List.pairwise_singleton _ _
 | x::y::l,h=>by
  have h1:DY x y:=h 0 (by simp)
  have h2:HN (y::l):=Agv fun i hi=>h (i+1) (by simpa using hi)
  refine lx116.2 ⟨fun z hz=>?_,h2⟩
  rcases lx59.1 hz with rfl | hz
  ·exact h1
  ·exact Jf h1 ((lx116.1 h2).1 z hz)
theorem Apq {l:List Int} {lo:Int} (h:l.any (GH lo)=false):∀ y ∈ l,lo≤y∧y≤2147483647:=fun y hy=>by
 have:=lx95.1 h y hy
 simp only [GH,ID,Bw,not_or] at this
 omega
theorem Apr {c:Cd} {s:Rs} {x:Cx} (hf:Fit c) (h:Ca c s=true) (hx:KT x=true):RuI c x ⟨s,[],[]⟩:=by
 simp only [Ca,AH,Jt,Bw] at h
 obtain ⟨⟨h1,h2⟩,h3⟩:=h
 have hv:=Ix h1
 have hl:=CK hv
 simp only [H4,DR,AH,lx86,Jt] at h1
 obtain ⟨⟨⟨⟨⟨⟨⟨_,e2⟩,e3⟩,e4⟩,e5⟩,e6⟩,_⟩,_⟩:=h1
 simp only [KT,AH,Bw] at hx
 have hlo:∀ i,i < s.lamps.length→Lf c s i=false:=fun i hi=>by
  rw [Bool.eq_false_iff]
  intro hc
  rw [Iv.2 ⟨i,hi,hc⟩] at h3; cases h3
 refine ⟨hv,hf,⟨⟨by omega,by omega⟩,⟨by omega,by omega⟩,by omega,by omega⟩,by exact_mod_cast e2,fun y hy=>?_,e3,fun y hy=>?_,?_,h2,fun o ho=>?_,Agv fun i hi=>?_⟩
 ·exact Apq e4 y hy
 ·exact Apq e5 y hy
 ·exact Apk (by omega) e6
 ·obtain ⟨i,hi,rfl⟩:=lx69 ho
  have:=hlo i hi
  simp only [Lf,Ju] at this
  have h4:=this.1
  rw [lx81,lx50 hi,lx4] at h4
  simp only [loX,Ju,Cy,Ow] at h4
  obtain ⟨⟨⟨⟨⟨k1,k2⟩,k3⟩,k4⟩,k5⟩,k6⟩:=h4
  exact ⟨⟨Int.not_lt.1 k1,Int.not_le.1 k2⟩,k3,⟨Int.not_lt.1 k4,Int.not_le.1 k5⟩,k6⟩
 ·have:=hlo (i+1) hi
  simp only [Lf,loY,Ju,Bool.and_eq_false_iff,Cy] at this
  rcases this.2 with h4 | h4
  ·omega
  ·exact SK.1 (Int.not_le.1 (by rw [Nat.add_sub_cancel] at h4; exact h4))
end Go.Proofs.YtdjpkhjaibdogaaGreat
