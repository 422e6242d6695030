/-
  Lemmas towards ModesFaults (joined texts: FK, FL, FM, FN, FO, FP, FQ, FR, FS, FT, FU, FV).
  Conditions: none.
-/
import Derived.Test.YtdjpkhjaibdogaaGreatK01
import Derived.Test.YtdjpkhjaibdogaaGreatK02
import Derived.Test.YtdjpkhjaibdogaaGreatK31
import Derived.Test.YtdjpkhjaibdogaaGreatK32
import Derived.Test.YtdjpkhjaibdogaaGreatK19
import Derived.Test.YtdjpkhjaibdogaaGreatK18
set_option linter.unusedSimpArgs false
set_option linter.unusedVariables false
set_option maxRecDepth 100000
set_option maxHeartbeats 8000000
namespace Go.Proofs.YtdjpkhjaibdogaaGreat
open Go Go.SX
attribute [local congr] ite_congr
def R7 (l:List Lo) (m:Int):List Lo:=l.filter fun x=>x.mo != m
def L0 (x:Lo) (p:List Lo × Bool) (y:Lo):List Lo × Bool:=
 let q:=if !p.2 && (decide (x.mo < y.mo) || ((y.mo == x.mo) && decide (x.la≤y.la))) then (p.1++[x],true) else p
 if (y.mo != x.mo) || (y.la != x.la) then (q.1++[y],q.2) else q
def Asy (l:List Lo) (x:Lo):List Lo:=if (l.foldl (L0 x) ([],false)).2=true then (l.foldl (L0 x) ([],false)).1 else (l.foldl (L0 x) ([],false)).1++[x]
def exQ (p:Cd × Int × Vn):Prop:=ExeQ p.1 p.2.2 p.2.1
noncomputable def f157:=EP exQ (fun p=>[B5 p.1,kA .i64 p.2.1,Ma p.2.2,kA .i64 1000]) (fun p=>MO (Hi p.1 p.2.2 p.2.1))
theorem Bf4 (c:Cd) (a:Int) (v:Vn) (h:ExeQ c v a):f157 [B5 c,.sc (.int .i64 a),Ma v,.sc (.int .i64 1000)]=some (MO (Hi c v a)):=
 (AG (q:=exQ) (enc:=fun p=>[B5 p.1,kA .i64 p.2.1,Ma p.2.2,kA .i64 1000]) (out:=fun p=>MO (Hi p.1 p.2.2 p.2.1)) (c,a,v) h (by
  rintro ⟨c',a',v'⟩ h
  simp only [lx96,Ay] at h
  rw [CV h.1,Bt h.2.1,Aa3 h.2.2]) :)
theorem Aq9:FOk Tryz.prog 157 f157:=SE <| by
 rintro ⟨c,a,v⟩ h
 exact Acn c v a h
structure Ru where
 s:Rs
 ef:List Ef
 po:List Ev
mutual
theorem Amn (id ver:Nat) (els:List AV):∀ a:AV,a.noref=true→Gq id ver els a=a
 | .sl ..,h=>by simp [AV.noref] at h
 | .ag cs,h=>by rw [Gq,Ob id ver els cs (by simpa [AV.noref] using h)]
 | .sc _,_=>rfl
 | .tu _,_=>rfl
 | .pt ..,_=>rfl
 | .vw ..,_=>rfl
 | .vp ..,_=>rfl
 | .fn ..,_=>rfl
 | .un,_=>rfl
 | .jk,_=>rfl
theorem Ob (id ver:Nat) (els:List AV):∀ l:List AV,norefs l=true→F3 id ver els l=l
 | [],_=>rfl
 | a::l,h=>by
  simp only [norefs,AH] at h
  rw [F3,Amn id ver els a h.1,Ob id ver els l h.2]
end
def D7 (n lo hi:Int):Int:=max lo (min n hi)
def onB (act a:Int):Int:=DE .or .u32 act (Ll .u32 1 a)
def WL (act a:Int):Int:=DE .andNot .u32 act (Ll .u32 1 a)
def DU (r:Ru) (m a:Int) (se:Lm):Ru:=if BT r.s.act m=true then { r with s:={ r.s with zm:=false,lamps:=Asy r.s.lamps ⟨m,a,se⟩ } } else r
def CT (x:Cx) (m:Int) (e:Ef) (r:Ru):Ru:=
 if e.k=21 then { r with s:={ r.s with zl:=false,left:=r.s.left.set e.a.toNat (D7 e.b 0 2147483647) } }
 else if e.k=22 then { r with s:={ r.s with zl:=false,left:=r.s.left.set e.a.toNat (D7 0 0 2147483647) } }
 else if e.k=23 then (if BT r.s.act e.a=true then r else { r with s:={ r.s with act:=onB r.s.act e.a },po:=r.po++[⟨1,0,e.a⟩] })
 else if e.k=24 then (if BT r.s.act e.a=true then { r with s:={ r.s with act:=WL r.s.act e.a,zm:=false,lamps:=R7 r.s.lamps e.a },po:=r.po++[⟨2,0,e.a⟩] } else r)
 else if e.k=25 then { r with po:=r.po++[⟨6,e.a,-1⟩] }
 else if e.k=19 then DU r m e.a ⟨D7 e.b 0 8,0,0,0⟩
 else if e.k=20 then DU r m e.a ⟨8,D7 e.b 1 1000,D7 e.c 1 1000,x.ti⟩
 else r
structure AppQ (m:Int) (e:Ef) (r:Ru):Prop where
 tim:e.k=21∨e.k=22→0≤e.a∧e.a < r.s.left.length
 mod:e.k=23∨e.k=24→0≤e.a∧e.a < 32
 own:0≤m∧m < 32
 lft:r.s.left.length≤1000
 lam:r.s.lamps.length≤100000
 pos:r.po.length≤1000000
theorem Ie {l m:List Int} (h:l.map (kA .i64)=m.map (kA .i64)):l=m:=DX (f:=kA .i64) (fun _ _=>Bt) h
def JD (r:Ru):Ru:={ r with s:={ r.s with fau:=min (r.s.fau+1) 2147483647 } }
def XU (l:List Ef) (r:Ru):Ru:={ r with ef:=r.ef++l }
def L1 (l:List Int) (r:Ru):Ru:={ r with s:={ r.s with zv:=false,vars:=l } }
def appL (x:Cx) (m:Int) (l:List Ef) (r:Ru):Ru:=l.foldl (fun r f=>CT x m f r) r
def P3 (x:Cx) (m:Int) (r:Ru):Option (List Int × List Ef × Nat)→Ru × Bool
 | none=>(JD r,false)
 | some y=>(XU y.2.1 (appL x m y.2.1 (L1 y.1 r)),y.2.1.any (fun f=>f.k == 30))
def D2 (c:Cd) (x:Cx) (m:Int) (ev:Ev) (r:Ru):Ru × Bool:=
 match ET c m ev.tr ev.ix with
 | none=>(r,false)
 | some en=>P3 x m r (Hi c (DQ r.s x) en.pc)
structure OneQ (c:Cd) (x:Cx) (m:Int) (ev:Ev) (r:Ru):Prop where
 fit:Fit c
 fau:0≤r.s.fau∧r.s.fau≤2147483647
 len:r.ef.length≤1000000
 exe:∀ en,ET c m ev.tr ev.ix=some en→ExeQ c (DQ r.s x) en.pc
 app:∀ en,ET c m ev.tr ev.ix=some en→∀ y,Hi c (DQ r.s x) en.pc=some y→y.2.1.length≤256∧∀ i,(h:i < y.2.1.length)→AppQ m (y.2.1[i]) (appL x m (y.2.1.take i) (L1 y.1 r))
theorem Aco {x:Cx} {m:Int} {l:List Ef} {i:Nat} (h:i < l.length) (r:Ru):appL x m (l.take (i+1)) r=CT x m (l[i]) (appL x m (l.take i) r):=by
 rw [appL,lx115 h,List.foldl_append]; rfl
theorem Aid {l:List Ef} {i:Nat} (h:i < l.length) (q:Ef→Bool):(l.take (i+1)).any q=((l.take i).any q || q l[i]):=by
 rw [lx115 h,List.any_append]; simp
theorem Amo (x:Cx) (m:Int) (f:Ef) (r:Ru):(CT x m f r).ef=r.ef:=by
 by_cases k21:f.k=21
 ·simp only [CT,k21,↓reduceIte]
 by_cases k22:f.k=22
 ·simp only [CT,k22,Int.reduceEq,↓reduceIte]
 by_cases k23:f.k=23
 ·cases hz:BT r.s.act f.a <;> simp only [CT,k23,hz,Int.reduceEq,Em,↓reduceIte]
 by_cases k24:f.k=24
 ·cases hz:BT r.s.act f.a <;> simp only [CT,k24,hz,Int.reduceEq,Em,↓reduceIte]
 by_cases k25:f.k=25
 ·simp only [CT,k25,Int.reduceEq,↓reduceIte]
 by_cases k19:f.k=19
 ·cases hz:BT r.s.act m <;> simp only [CT,DU,k19,hz,Int.reduceEq,Em,↓reduceIte]
 by_cases k20:f.k=20
 ·cases hz:BT r.s.act m <;> simp only [CT,DU,k20,hz,Int.reduceEq,Em,↓reduceIte]
 simp only [CT,k21,k22,k23,k24,k25,k19,k20,↓reduceIte]
theorem Tw (x:Cx) (m:Int):∀ (l:List Ef) (r:Ru),(appL x m l r).ef=r.ef
 | [],_=>rfl
 | f::l,r=>by
  have:=Tw x m l (CT x m f r)
  rw [Amo] at this
  exact this
theorem XV {α:Type} (P:Nat→α→α→Prop) (n:Nat) (a0:α) (h:∀ i a,i < n→∃ b,P i a b):∃ V:Nat→α,V 0=a0∧∀ i,i < n→P i (V i) (V (i+1)):=by
 classical
 refine ⟨fun k=>Nat.rec a0 (fun i a=>if hi:i < n then Classical.choose (h i a hi) else a) k,rfl,fun i hi=>?_⟩
 simp only [dif_pos hi]
 exact lx95 (h i _ hi)
end Go.Proofs.YtdjpkhjaibdogaaGreat
namespace Go.Proofs.YtdjpkhjaibdogaaGreat
open Go Go.SX
theorem XW {a b:Nat} (ha:a < 2 ^ 32) (hb:b < 2 ^ 32):DE .and .u32 a b=((a &&& b:Nat):Int):=by
 have h1:(BitVec.ofInt 32 (a:Int)).toNat=a:=S7 32 a ha
 have h2:(BitVec.ofInt 32 (b:Int)).toNat=b:=S7 32 b hb
 have h3:a &&& b < 2 ^ 32:=Nat.and_lt_two_pow a hb
 have:DE .and .u32 a b=IntKind.u32.wrap (((BitVec.ofInt 32 (a:Int)) &&& (BitVec.ofInt 32 (b:Int))).toNat:Int):=rfl
 rw [this,BitVec.toNat_and,h1,h2,JM (by omega) (by omega)]
theorem Acp {a b:Nat} (ha:a < 2 ^ 32) (hb:b < 2 ^ 32):DE .or .u32 a b=((a ||| b:Nat):Int):=by
 have h1:(BitVec.ofInt 32 (a:Int)).toNat=a:=S7 32 a ha
 have h2:(BitVec.ofInt 32 (b:Int)).toNat=b:=S7 32 b hb
 have h3:a ||| b < 2 ^ 32:=Nat.or_lt_two_pow ha hb
 have:DE .or .u32 a b=IntKind.u32.wrap (((BitVec.ofInt 32 (a:Int)) ||| (BitVec.ofInt 32 (b:Int))).toNat:Int):=rfl
 rw [this,BitVec.toNat_or,h1,h2,JM (by omega) (by omega)]
def Acq (a b:Nat):Nat:=(BitVec.ofNat 32 a &&& ~~~ BitVec.ofNat 32 b).toNat
theorem XX (a b:Nat):DE .andNot .u32 a b=((Acq a b:Nat):Int):=by
 have:DE .andNot .u32 a b=IntKind.u32.wrap (((BitVec.ofInt 32 (a:Int)) &&& ~~~ (BitVec.ofInt 32 (b:Int))).toNat:Int):=rfl
 rw [this,BitVec.ofInt_natCast,BitVec.ofInt_natCast,JM (by omega) (by
  have:=(BitVec.ofNat 32 a &&& ~~~ BitVec.ofNat 32 b).isLt
  omega)]
 rfl
theorem Aie {n:Nat} (hn:n < 32):Ll .u32 1 n=((2 ^ n:Nat):Int):=by
 have e:min ((n:Int).toNat) (IntKind.bits .u32)=n:=by
  have:IntKind.bits .u32=32:=rfl
  rw [this]; omega
 have hp:2 ^ n < 2 ^ 32:=Nat.pow_lt_pow_right (by decide) hn
 have e2:(1:Int) * 2 ^ n=((2 ^ n:Nat):Int):=Br
 rw [Ll,e,e2]
 exact JM (Nv _) (Int.lt_of_lt_of_le (Int.ofNat_lt.2 hp) (by decide))
theorem Aif {a n:Nat} (hn:n < 32):He .u32 a n=((a >>> n:Nat):Int):=by
 have e:min ((n:Int).toNat) (IntKind.bits .u32)=n:=by
  have:IntKind.bits .u32=32:=rfl
  rw [this]; omega
 have e2:(2:Int) ^ n=((2 ^ n:Nat):Int):=Br
 rw [He,e,e2,Int.fdiv_eq_ediv_of_nonneg _ (Nv _),Nat.shiftRight_eq_div_pow]
 rfl
theorem Amp {a n:Nat} (ha:a < 2 ^ 32) (hn:n < 32):BT a n=a.testBit n:=by
 have h1:a >>> n < 2 ^ 32:=by rw [Nat.shiftRight_eq_div_pow]; exact Nat.lt_of_le_of_lt (Nat.div_le_self _ _) ha
 rw [BT,Aif hn]
 have:DE .and .u32 ((a >>> n:Nat):Int) ((1:Nat):Int)=((a >>> n &&& 1:Nat):Int):=XW h1 (by omega)
 have e:((1:Nat):Int)=1:=rfl
 rw [e] at this
 rw [this,Nat.testBit]
 rw [Nat.and_comm 1,Nat.and_one_is_mod]
 have:=Qt (a >>> n)
 rcases this with h | h <;> rw [h] <;> rfl
theorem onN {a n:Nat} (ha:a < 2 ^ 32) (hn:n < 32):onB a n=((a ||| 2 ^ n:Nat):Int):=by
 rw [onB,Aie hn,Acp ha (Nat.pow_lt_pow_right (by decide) hn)]
theorem Aai {a n:Nat} (hn:n < 32):WL a n=((Acq a (2 ^ n):Nat):Int):=by
 rw [WL,Aie hn,XX]
theorem Aig {a n m:Nat} (hn:n < 32) (hm:m < 32) (ha:a < 2 ^ 32):(Acq a (2 ^ n)).testBit m=(a.testBit m && !decide (n=m)):=by
 rw [Acq,←BitVec.getLsbD,BitVec.getLsbD_and,BitVec.getLsbD_not,BitVec.getLsbD_ofNat,BitVec.getLsbD_ofNat,Nat.testBit_two_pow]
 simp [hm]
theorem Aaj (a b:Nat):Acq a b≤a:=by
 rw [Acq,BitVec.toNat_and]
 refine Og Nat.and_le_left ?_
 rw [BitVec.toNat_ofNat]
 exact Nat.mod_le _ _
theorem Aih {a:Int} {n:Nat} (hn:n≤16) (h:He .u32 a n=0):∃ A:Nat,a=A∧A < 2 ^ n:=by
 have e:min ((n:Int).toNat) (IntKind.bits .u32)=n:=by
  have:IntKind.bits .u32=32:=rfl
  rw [this]; omega
 have e2:(2:Int) ^ n=((2 ^ n:Nat):Int):=Br
 rw [He,e,e2,Int.fdiv_eq_ediv_of_nonneg _ (Nv _)] at h
 have hp:0 < 2 ^ n:=Nat.pow_pos (by decide)
 have h1:=Int.mul_ediv_add_emod a ((2 ^ n:Nat):Int)
 have h2:=Int.emod_nonneg a (b:=((2 ^ n:Nat):Int)) (by omega)
 have h3:=Int.emod_lt_of_pos a (b:=((2 ^ n:Nat):Int)) (by omega)
 rw [h,Int.mul_zero,Int.zero_add] at h1
 exact ⟨a.toNat,by omega,by omega⟩
theorem Acr {A n:Nat} (hn:n≤16) (h:A < 2 ^ n):He .u32 (A:Int) n=0:=by
 rw [Aif (by omega),Nat.shiftRight_eq_div_pow,Nat.div_eq_of_lt h]; rfl
def DV (a b:Lo):Prop:=a.mo < b.mo∨a.mo=b.mo∧a.la < b.la
instance (a b:Lo):Decidable (DV a b):=by unfold DV; exact inferInstance
def JE (a b:Lo):Prop:=a.mo=b.mo∧a.la=b.la
instance (a b:Lo):Decidable (JE a b):=by unfold JE; exact inferInstance
theorem IJ {a b d:Lo} (h:DV a b) (h':DV b d):DV a d:=by unfold DV at *; omega
theorem Aqa (a b:Lo):DV a b∨JE a b∨DV b a:=by unfold DV JE; omega
def JF (x:Lo):List Lo→List Lo
 | []=>[x]
 | y::l=>if DV y x then y::JF x l else if JE y x then x::l else x::y::l
abbrev Hc (l:List Lo):Prop:=l.Pairwise DV
theorem MP (x:Lo):∀ (l a:List Lo),(∀ y ∈ l,DV x y)→l.foldl (L0 x) (a,true)=(a++l,true)
 | [],a,_=>by simp
 | y::l,a,h=>by
  have h1:=h y lx48
  have e:L0 x (a,true) y=(a++[y],true):=by
   unfold DV at h1
   have:((y.mo != x.mo) || (y.la != x.la))=true:=by
    rw [IX,bne_iff_ne,bne_iff_ne]; omega
   simp [L0,this]
  rw [List.foldl_cons,e,MP x l _ (fun z hz=>h z (lx49 _ hz))]
  simp
theorem R8 (x:Lo):∀ (l a:List Lo),Hc l→
  (if (l.foldl (L0 x) (a,false)).2=true then (l.foldl (L0 x) (a,false)).1 else (l.foldl (L0 x) (a,false)).1++[x])=a++JF x l
 | [],a,_=>by simp [JF]
 | y::l,a,h=>by
  have h:=lx126.1 h
  obtain ⟨h1,h2⟩:=h
  rcases Aqa y x with h3 | h3 | h3
  ·have e:L0 x (a,false) y=(a++[y],false):=by
    unfold DV at h3
    have g:((y.mo != x.mo) || (y.la != x.la))=true:=by
     rw [IX,bne_iff_ne,bne_iff_ne]; omega
    have g2:(decide (x.mo < y.mo) || ((y.mo == x.mo) && decide (x.la≤y.la)))=false:=by
     rw [J7,BJ,Qu,BJ,lx113]; omega
    simp [L0,g,g2]
   rw [List.foldl_cons,e,R8 x l _ h2,JF,if_pos h3]
   simp
  ·have h4:∀ z ∈ l,DV x z:=fun z hz=>by
    have:=h1 z hz
    unfold JE at h3; unfold DV at *; omega
   have e:L0 x (a,false) y=(a++[x],true):=by
    unfold JE at h3
    have g:((y.mo != x.mo) || (y.la != x.la))=false:=by
     rw [J7,bne_eq_false_iff_eq,bne_eq_false_iff_eq]; omega
    exact Auq
   have n3:¬ DV y x:=by unfold JE at h3; unfold DV; omega
   rw [List.foldl_cons,e,MP x l _ h4,JF,if_neg n3,if_pos h3]
   simp
  ·have h4:∀ z ∈ l,DV x z:=fun z hz=>IJ h3 (h1 z hz)
   have e:L0 x (a,false) y=(a++[x]++[y],true):=by
    unfold DV at h3
    have g:((y.mo != x.mo) || (y.la != x.la))=true:=by
     rw [IX,bne_iff_ne,bne_iff_ne]; omega
    exact Auq
   have n3:¬ DV y x:=by unfold DV at *; omega
   have n4:¬ JE y x:=by unfold JE; unfold DV at h3; omega
   rw [List.foldl_cons,e,MP x l _ h4,JF,if_neg n3,if_neg n4]
   simp
theorem L2 {l:List Lo} (h:Hc l) (x:Lo):Asy l x=JF x l:=by
 have:=R8 x l [] h
 rw [lx64] at this
 exact this
theorem P4 {x:Lo}:∀ {l:List Lo} {y:Lo},y ∈ JF x l→y=x∨y ∈ l
 | [],y,h=>by simp [JF] at h; exact .inl h
 | z::l,y,h=>by
  rw [JF] at h
  split at h
  ·rcases lx59.1 h with h | h
   ·exact .inr (h ▸ lx48)
   ·rcases P4 h with h | h
    ·exact .inl h
    ·exact .inr (lx49 _ h)
  ·split at h
   ·rcases lx59.1 h with h | h
    ·exact .inl h
    ·exact .inr (lx49 _ h)
   ·rcases lx59.1 h with h | h
    ·exact .inl h
    ·exact .inr h
theorem WM {x:Lo}:∀ {l:List Lo},Hc l→Hc (JF x l)
 | [],_=>by simp [JF]
 | y::l,h=>by
  have hh:=lx126.1 h
  obtain ⟨h1,h2⟩:=hh
  rw [JF]
  split
  ·rename_i h3
   refine lx126.2 ⟨fun z hz=>?_,WM h2⟩
   rcases P4 hz with rfl | hz
   ·exact h3
   ·exact h1 z hz
  ·split
   ·rename_i h3
    refine lx126.2 ⟨fun z hz=>?_,h2⟩
    have:=h1 z hz
    unfold JE at h3; unfold DV at *; omega
   ·rename_i n3 n4
    have h3:DV x y:=by
     rcases Aqa y x with h | h | h
     ·exact absurd h n3
     ·exact absurd h n4
     ·exact h
    refine lx126.2 ⟨fun z hz=>?_,h⟩
    rcases lx59.1 hz with rfl | hz
    ·exact h3
    ·exact IJ h3 (h1 z hz)
theorem Aak {lo hi:Int}:∀ {l:List Int},l.Pairwise (· < ·)→(∀ x ∈ l,lo≤x∧x < hi)→lo≤hi→(l.length:Int)≤hi - lo
 | [],_,_,h=>by simp; omega
 | x::l,h,hb,hle=>by
  have hh:=lx126.1 h
  have hx:=hb x lx48
  have:=Aak (lo:=x+1) (hi:=hi) hh.2 (fun y hy=>⟨by have:=hh.1 y hy; omega,(hb y (lx49 _ hy)).2⟩) (by omega)
  simp only [lx53]
  omega
theorem Amq {l:List Lo} (h:Hc l) (hb:∀ o ∈ l,0≤o.mo∧o.mo < 16∧0≤o.la∧o.la < 64):l.length≤1024:=by
 have h1:(l.map fun o=>o.mo * 64+o.la).Pairwise (· < ·):=by
  rw [List.pairwise_map]
  refine List.Pairwise.imp_of_mem (fun {a b} ha hb' hab=>?_) h
  have:=hb a ha
  have:=hb b hb'
  unfold DV at hab; omega
 have h2:=Aak (lo:=0) (hi:=1024) h1 (by
  intro x hx
  obtain ⟨o,ho,rfl⟩:=lx35.1 hx
  have:=hb o ho
  omega) (by decide)
 rw [lx58] at h2
 omega
structure EfI (c:Cd) (f:Ef):Prop where
 tim:f.k=21∨f.k=22→0≤f.a∧f.a < c.tim
 mod:f.k=23∨f.k=24→0≤f.a∧f.a < c.pri.length
 lam:f.k=19∨f.k=20→0≤f.a∧f.a < 64
theorem Acs (c:Cd) (v:Vn) (x:In) (m:Ms):∀ f ∈ (AO c v x m).ef,f ∈ m.ef∨(f.k=x.op∧(f.a=x.a∨x.op=29)):=by
 obtain ⟨op,a⟩:=x
 have put:∀ n (m:Ms),(I4 n m).ef=m.ef:=fun _ _=>rfl
 have pop:∀ (m:Ms),(Hh m).ef=m.ef:=fun _=>rfl
 have eff:∀ x (m:Ms) f,f ∈ (NI x m).ef→f ∈ m.ef∨f=x:=fun x m f hf=>by
  rcases lx76.1 hf with h | h
  ·exact .inl h
  ·exact .inr (lx70.1 h)
 intro f hf
 rcases Gk op with (rfl | rfl | rfl | rfl | rfl | rfl | rfl | rfl | rfl | rfl | rfl | rfl | rfl | rfl | rfl | rfl | rfl | rfl | rfl | rfl | rfl | rfl | rfl | rfl | rfl | rfl | rfl | rfl | rfl | rfl | rfl) | hno
 rotate_right
 ·have g:∀ k:Int,1≤k→k≤31→(op=k)=False:=fun k h1 h2=>by have:=hno k h1 h2; simpa using this
  simp [AO,opS,g] at hf
  rcases eff _ _ f hf with h | h
  ·exact .inl h
  ·subst h; exact .inr ⟨rfl,.inl rfl⟩
 case inl.inr.inr.inr.inr.inr.inr.inr.inr.inr.inr.inr.inr.inl=>
  exact Aol
 case inl.inr.inr.inr.inr.inr.inr.inr.inr.inr.inr.inr.inr.inr.inl=>
  exact Aol
 all_goals
  simp only [AO,opS,Int.reduceEq,lx6,lx7,↓reduceIte,or_self,GH,false_or,or_true,true_or] at hf
  first
   | exact .inl hf
   | exact (eff _ _ f hf).elim .inl fun h=>by subst h; exact .inr ⟨rfl,by simp⟩
theorem Ba4 {c:Cd} {v:Vn} {m:Ms} (hv:Be c=0) (h:MOk c m) (he:∀ f ∈ m.ef,EfI c f):∀ f ∈ (AO c v (AF c m.pc) m).ef,EfI c f:=by
 intro f hf
 rcases Acs c v _ m f hf with h1 | ⟨h1,h2⟩
 ·exact he f h1
 ·have hs:=fun hj=>Aae hv h hj
  generalize AF c m.pc=x at h1 h2 hs
  obtain ⟨op,a⟩:=x
  simp only at h1 h2 hs
  refine ⟨fun h3=>?_,fun h3=>?_,fun h3=>?_⟩
  ·exact Aqs
  ·exact Aqs
  ·exact Aqs
theorem Tx {c:Cd} {v:Vn} (hv:Be c=0) (he:EnvI c v):∀ (n:Nat) (m:Ms),(m.dn=false→MOk c m)→(∀ x ∈ m.va,D6 x)→m.va.length=c.vars.length→(∀ f ∈ m.ef,EfI c f)→
  (∀ x ∈ (DC c v n m).1.va,D6 x)∧(DC c v n m).1.va.length=c.vars.length∧∀ f ∈ (DC c v n m).1.ef,EfI c f
 | 0,m,_,h2,h3,h4=>⟨h2,h3,h4⟩
 | n+1,m,h1,h2,h3,h4=>by
  rw [DC]
  split
  ·exact ⟨h2,h3,h4⟩
  ·rename_i hs
   rw [not_or,GY] at hs
   have hm:=h1 hs.1
   have h4':=Ba4 (v:=v) hv hm h4
   by_cases h31:(AF c m.pc).op=31
   ·have e:AO c v (AF c m.pc) m={ m with pc:=m.pc+1,dn:=true }:=by simp [AO,opS,h31]
    rw [e] at h4' ⊢
    exact Tx hv he n _ (fun h=>by cases h) h2 h3 h4'
   ·have hn:=WJ hv he hm h31
    exact Tx hv he n _ (fun _=>hn) hn.va hn.vl h4'
theorem Ty {c:Cd} {v:Vn} {at':Int} (h:ExeQ c v at') {y:List Int × List Ef × Nat} (hy:Hi c v at'=some y):
  (∀ x ∈ y.1,D6 x)∧y.1.length=c.vars.length∧y.2.1.length≤256∧∀ f ∈ y.2.1,EfI c f:=by
 have hv:=H8 h.env
 obtain ⟨he,h2,h3⟩:=Aia h.env
 have hm:=Aib h
 have key:=fun n=>Tx hv he n (LZ v at') (fun _=>hm) h2 h3 (fun f hf=>absurd hf (by simp [LZ]))
 obtain ⟨B,hB⟩:∃ B:Nat,B=1000:=⟨_,rfl⟩
 have hx:Hi c v at'=if (DC c v B (LZ v at')).1.dn=true∧(DC c v B (LZ v at')).1.ef.length≤256 then
  some ((DC c v B (LZ v at')).1.va,(DC c v B (LZ v at')).1.ef,(DC c v B (LZ v at')).2) else none:=by rw [hB]; rfl
 rw [hx] at hy
 have hk:=key B
 by_cases hc:(DC c v B (LZ v at')).1.dn=true∧(DC c v B (LZ v at')).1.ef.length≤256
 ·rw [if_pos hc] at hy
  cases hy
  exact ⟨hk.1,hk.2.1,hc.2,hk.2.2⟩
 ·rw [if_neg hc] at hy; cases hy
def LoI (c:Cd) (act:Int) (o:Lo):Prop:=(0≤o.mo∧o.mo < c.pri.length)∧BT act o.mo=true∧(0≤o.la∧o.la < 64)∧Kv o.se=true
def CxI (x:Cx):Prop:=(0≤x.ti∧x.ti≤1099511627776)∧(0≤x.pl'∧x.pl'≤2147483647)∧0≤x.ba∧x.ba≤2147483647
structure RuI (c:Cd) (x:Cx) (r:Ru):Prop where
 val:Be c=0
 fit:Fit c
 cx:CxI x
 vl:r.s.vars.length=c.vars.length
 va:∀ y ∈ r.s.vars,D6 y
 ll:(r.s.left.length:Int)=c.tim
 lf:∀ y ∈ r.s.left,0≤y∧y≤2147483647
 ac:∃ A:Nat,r.s.act=A∧A < 2 ^ c.pri.length
 fa:0≤r.s.fau∧r.s.fau≤2147483647
 lo:∀ o ∈ r.s.lamps,LoI c r.s.act o
 so:Hc r.s.lamps
theorem Aii {n:Nat} (hn:n≤16):2 ^ n < 2 ^ 32:=Nat.pow_lt_pow_right (by decide) (by omega)
theorem Asz {A n:Nat} (hA:A < 2 ^ n) (hn:n≤16) {a b:Int} (ha:0≤a∧a < n) (hb:0≤b∧b < n):BT (onB A a) b=(BT A b || decide (a=b)):=by
 obtain ⟨i,rfl⟩:=IL ha.1
 obtain ⟨j,rfl⟩:=IL hb.1
 have hA':A < 2 ^ 32:=Nat.lt_trans hA (Aii hn)
 have hp:2 ^ i < 2 ^ 32:=Nat.pow_lt_pow_right (by decide) (by omega)
 rw [onN hA' (by omega),Amp (Nat.or_lt_two_pow hA' hp) (by omega),Amp hA' (by omega),Nat.testBit_or,Nat.testBit_two_pow]
 congr 1
 rw [decide_eq_decide]; omega
theorem Amr {A n:Nat} (hA:A < 2 ^ n) (hn:n≤16) {a b:Int} (ha:0≤a∧a < n) (hb:0≤b∧b < n):BT (WL A a) b=(BT A b && !decide (a=b)):=by
 obtain ⟨i,rfl⟩:=IL ha.1
 obtain ⟨j,rfl⟩:=IL hb.1
 have hA':A < 2 ^ 32:=Nat.lt_trans hA (Aii hn)
 rw [Aai (by omega),Amp (Nat.lt_of_le_of_lt (Aaj _ _) hA') (by omega),Amp hA' (by omega),Aig (by omega) (by omega) hA']
 congr 2
 rw [decide_eq_decide]; omega
theorem Ba5 {A n:Nat} (hA:A < 2 ^ n) (hn:n≤16) {a:Int} (ha:0≤a∧a < n):∃ B:Nat,onB A a=B∧B < 2 ^ n:=by
 obtain ⟨i,rfl⟩:=IL ha.1
 exact ⟨_,onN (Nat.lt_trans hA (Aii hn)) (by omega),Nat.or_lt_two_pow hA (Nat.pow_lt_pow_right (by decide) (by omega))⟩
theorem At0 {A n:Nat} (hA:A < 2 ^ n) (hn:n≤16) {a:Int} (ha:0≤a∧a < n):∃ B:Nat,WL A a=B∧B < 2 ^ n:=by
 obtain ⟨i,rfl⟩:=IL ha.1
 exact ⟨_,Aai (by omega),Nat.lt_of_le_of_lt (Aaj _ _) hA⟩
theorem RuI.env {c:Cd} {x:Cx} {r:Ru} (h:RuI c x r):Hg c (DQ r.s x)=true:=by
 obtain ⟨A,hA,hA2⟩:=h.ac
 have hl:=Cw h.val
 have hb:∀ lo n,lo≤n→n≤2147483647→EY lo n=false:=fun lo n h1 h2=>by
  simp only [EY,J7,BJ]; omega
 have hsh:He .u32 r.s.act (c.pri.length:Int)=0:=by rw [hA]; exact Acr (by omega) hA2
 have ha:∀ (l:List Int) lo,(∀ y ∈ l,lo≤y∧y≤2147483647)→l.any (EY lo)=false:=fun l lo hy=>by
  rw [lx97]
  intro y hy'
  rw [hb lo y (hy y hy').1 (hy y hy').2]; simp
 have h1:=ha r.s.vars (-2147483647) h.va
 have h2:=ha r.s.left 0 h.lf
 have h3:=hb 0 x.pl' h.cx.2.1.1 h.cx.2.1.2
 have h4:=hb 0 x.ba h.cx.2.2.1 h.cx.2.2.2
 have h5:((r.s.vars.length:Int) == c.vars.length)=true:=by rw [lx85]; exact_mod_cast h.vl
 have h6:((r.s.left.length:Int) == c.tim)=true:=by rw [lx85]; exact h.ll
 have h0:(Be c == 0)=true:=by rw [h.val]; rfl
 simp only [Hg,DQ,h0,h1,h2,h3,h4,h5,h6,hsh]
 rfl
theorem RuI.lmp {c:Cd} {x:Cx} {r:Ru} (h:RuI c x r):r.s.lamps.length≤1024:=by
 have hl:=Cw h.val
 exact Amq h.so fun o ho=>by
  obtain ⟨h1,_,h2,_⟩:=h.lo o ho
  omega
theorem RuI.app {c:Cd} {x:Cx} {r:Ru} (h:RuI c x r) {m:Int} (hm:0≤m∧m < c.pri.length) {f:Ef} (hf:EfI c f) (hp:r.po.length≤1000000):AppQ m f r:=by
 have hl:=Cw h.val
 have hn:=h.lmp
 have hq:=h.ll
 exact ⟨fun hk=>by have:=hf.tim hk; omega,fun hk=>by have:=hf.mod hk; omega,by omega,by omega,by omega,hp⟩
theorem J4 {n lo hi:Int} (h:lo≤hi):lo≤D7 n lo hi∧D7 n lo hi≤hi:=by unfold D7; omega
theorem Ams {P:Int→Prop} {l:List Int} (h:∀ y ∈ l,P y) (i:Nat) {v:Int} (hv:P v):∀ y ∈ l.set i v,P y:=fun y hy=>by
 rcases List.mem_or_eq_of_mem_set hy with h1 | h1
 ·exact h y h1
 ·rw [h1]; exact hv
theorem Aij {c:Cd} {x:Cx} {r:Ru} (h:RuI c x r) {m a:Int} {se:Lm} (hm:0≤m∧m < c.pri.length) (ha:0≤a∧a < 64) (hs:Kv se=true):RuI c x (DU r m a se):=by
 unfold DU
 by_cases hz:BT r.s.act m=true
 ·rw [if_pos hz]
  refine ⟨h.val,h.fit,h.cx,h.vl,h.va,h.ll,h.lf,h.ac,h.fa,fun o ho=>?_,?_⟩
  ·simp only [L2 h.so] at ho
   rcases P4 ho with rfl | ho
   ·exact ⟨hm,hz,ha,hs⟩
   ·exact h.lo o ho
  ·simp only [L2 h.so]; exact WM h.so
 ·rw [if_neg hz]; exact h
theorem At1 {c:Cd} {x:Cx} {r:Ru} (h:RuI c x r) {m:Int} (hm:0≤m∧m < c.pri.length) {f:Ef} (hf:EfI c f):RuI c x (CT x m f r):=by
 have hl:=Cw h.val
 obtain ⟨A,hA,hA2⟩:=h.ac
 unfold CT
 by_cases k21:f.k=21
 ·rw [if_pos k21]
  exact Anv
 rw [if_neg k21]
 by_cases k22:f.k=22
 ·rw [if_pos k22]
  exact Anv
 rw [if_neg k22]
 by_cases k23:f.k=23
 ·rw [if_pos k23]
  have ha:=hf.mod (.inl k23)
  by_cases hz:BT r.s.act f.a=true
  ·rw [if_pos hz]; exact h
  ·rw [if_neg hz]
   refine ⟨h.val,h.fit,h.cx,h.vl,h.va,h.ll,h.lf,?_,h.fa,fun o ho=>?_,h.so⟩
   ·simp only [hA]; exact Ba5 hA2 (by omega) ha
   ·obtain ⟨g1,g2,g3⟩:=h.lo o ho
    refine ⟨g1,?_,g3⟩
    simp only [hA] at g2 ⊢
    rw [Asz hA2 (by omega) ha g1,g2]; rfl
 rw [if_neg k23]
 by_cases k24:f.k=24
 ·rw [if_pos k24]
  have ha:=hf.mod (.inr k24)
  by_cases hz:BT r.s.act f.a=true
  ·rw [if_pos hz]
   refine ⟨h.val,h.fit,h.cx,h.vl,h.va,h.ll,h.lf,?_,h.fa,fun o ho=>?_,h.so.filter _⟩
   ·simp only [hA]; exact At0 hA2 (by omega) ha
   ·obtain ⟨ho,hne⟩:=List.mem_filter.1 ho
    obtain ⟨g1,g2,g3⟩:=h.lo o ho
    refine ⟨g1,?_,g3⟩
    simp only [hA] at g2 ⊢
    rw [Amr hA2 (by omega) ha g1,g2]
    have:f.a≠o.mo:=fun e=>by rw [bne_iff_ne] at hne; exact hne e.symm
    simp [this]
  ·rw [if_neg hz]; exact h
 rw [if_neg k24]
 by_cases k25:f.k=25
 ·rw [if_pos k25]
  exact ⟨h.val,h.fit,h.cx,h.vl,h.va,h.ll,h.lf,h.ac,h.fa,h.lo,h.so⟩
 rw [if_neg k25]
 by_cases k19:f.k=19
 ·rw [if_pos k19]
  refine Aij h hm (hf.lam (.inl k19)) ?_
  have:=J4 (n:=f.b) (lo:=0) (hi:=8) (by decide)
  exact I6 ⟨this.1,this.2,⟨Int.le_refl 0,(by decide:(0:Int)≤1099511627776)⟩,Int.le_refl 0,(by decide:(0:Int)≤1000),.inl ⟨rfl,rfl⟩⟩
 rw [if_neg k19]
 by_cases k20:f.k=20
 ·rw [if_pos k20]
  refine Aij h hm (hf.lam (.inr k20)) ?_
  have h1:=J4 (n:=f.b) (lo:=1) (hi:=1000) (by decide)
  have h2:=J4 (n:=f.c) (lo:=1) (hi:=1000) (by decide)
  have h3:=h.cx.1
  exact I6 ⟨(by decide:(0:Int)≤8),Int.le_refl 8,h3,by simp only; omega,h2.2,.inr ⟨by simp only; omega,h1⟩⟩
 rw [if_neg k20]
 exact h
theorem Amt (x:Cx) (m:Int) (f:Ef) (r:Ru):(CT x m f r).po.length≤r.po.length+1:=by
 have hp:∀ e:Ev,(r.po++[e]).length≤r.po.length+1:=fun e=>by simp
 by_cases k21:f.k=21
 ·simp only [CT,k21,↓reduceIte]; omega
 by_cases k22:f.k=22
 ·simp only [CT,k22,Int.reduceEq,↓reduceIte]; omega
 by_cases k23:f.k=23
 ·cases hz:BT r.s.act f.a <;> simp only [CT,k23,hz,Int.reduceEq,Em,↓reduceIte,hp] <;> omega
 by_cases k24:f.k=24
 ·cases hz:BT r.s.act f.a <;> simp only [CT,k24,hz,Int.reduceEq,Em,↓reduceIte,hp] <;> omega
 by_cases k25:f.k=25
 ·simp only [CT,k25,Int.reduceEq,↓reduceIte,hp]
 by_cases k19:f.k=19
 ·cases hz:BT r.s.act m <;> simp only [CT,DU,k19,hz,Int.reduceEq,Em,↓reduceIte] <;> omega
 by_cases k20:f.k=20
 ·cases hz:BT r.s.act m <;> simp only [CT,DU,k20,hz,Int.reduceEq,Em,↓reduceIte] <;> omega
 simp only [CT,k21,k22,k23,k24,k25,k19,k20,↓reduceIte]; omega
theorem Tz {c:Cd} {x:Cx} {m:Int} (hm:0≤m∧m < c.pri.length):∀ (l:List Ef) {r:Ru},RuI c x r→(∀ f ∈ l,EfI c f)→RuI c x (appL x m l r)
 | [],_,h,_=>h
 | f::l,r,h,hf=>Tz hm l (At1 h hm (hf f lx48)) (fun g hg=>hf g (lx49 _ hg))
theorem Oc (x:Cx) (m:Int):∀ (l:List Ef) (r:Ru),(appL x m l r).po.length≤r.po.length+l.length
 | [],_=>Ax _
 | f::l,r=>by
  have h1:=Oc x m l (CT x m f r)
  have h2:=Amt x m f r
  have e:appL x m (f::l) r=appL x m l (CT x m f r):=rfl
  rw [e,lx53]; omega
theorem Aik {c:Cd} {x:Cx} {r:Ru} (h:RuI c x r) {l:List Int} (h1:∀ y ∈ l,D6 y) (h2:l.length=c.vars.length):RuI c x (L1 l r):=
 ⟨h.val,h.fit,h.cx,h2,h1,h.ll,h.lf,h.ac,h.fa,h.lo,h.so⟩
theorem Aqb {c:Cd} {x:Cx} {r:Ru} (h:RuI c x r):RuI c x (JD r):=by
 have:=h.fa
 exact ⟨h.val,h.fit,h.cx,h.vl,h.va,h.ll,h.lf,h.ac,by simp only [JD]; omega,h.lo,h.so⟩
theorem RuI.exe {c:Cd} {x:Cx} {r:Ru} (h:RuI c x r) {m tr ix:Int} {en:En} (he:ET c m tr ix=some en):ExeQ c (DQ r.s x) en.pc:=
 ⟨h.fit,h.env,en,List.mem_of_find?_eq_some he,rfl⟩
theorem RuI.one {c:Cd} {x:Cx} {r:Ru} (h:RuI c x r) {m:Int} (hm:0≤m∧m < c.pri.length) (ev:Ev) (he:r.ef.length≤1000000) (hp:r.po.length≤900000):OneQ c x m ev r:=by
 refine ⟨h.fit,h.fa,he,fun en hn=>h.exe hn,fun en hn y hy=>?_⟩
 obtain ⟨g1,g2,g3,g4⟩:=Ty (h.exe hn) hy
 refine ⟨g3,fun i hi=>?_⟩
 have h1:=Aik h g1 g2
 have h2:=Tz hm (y.2.1.take i) h1 (fun f hf=>g4 f (lx38 hf))
 refine h2.app hm (g4 _ (lx90 hi)) ?_
 have h3:=Oc x m (y.2.1.take i) (L1 y.1 r)
 rw [lx68] at h3
 have h4:(L1 y.1 r).po.length=r.po.length:=rfl
 omega
theorem Ail {c:Cd} {x:Cx} {r:Ru} (h:RuI c x r) {m:Int} (hm:0≤m∧m < c.pri.length) (ev:Ev):
  RuI c x (D2 c x m ev r).1∧(D2 c x m ev r).1.ef.length≤r.ef.length+256∧(D2 c x m ev r).1.po.length≤r.po.length+256:=by
 rw [D2]
 cases hn:ET c m ev.tr ev.ix with
 | none=>exact ⟨h,by simp,by simp⟩
 | some en=>
  simp only
  cases hy:Hi c (DQ r.s x) en.pc with
  | none=>exact ⟨Aqb h,by simp [P3,JD],by simp [P3,JD]⟩
  | some y=>
   obtain ⟨g1,g2,g3,g4⟩:=Ty (h.exe hn) hy
   have h2:=Tz hm y.2.1 (Aik h g1 g2) g4
   have h3:=Oc x m y.2.1 (L1 y.1 r)
   have h4:(L1 y.1 r).po.length=r.po.length:=rfl
   have h5:=Tw x m y.2.1 (L1 y.1 r)
   have h6:(L1 y.1 r).ef=r.ef:=rfl
   refine ⟨⟨h2.val,h2.fit,h2.cx,h2.vl,h2.va,h2.ll,h2.lf,h2.ac,h2.fa,h2.lo,h2.so⟩,?_,?_⟩
   ·simp only [P3,XU,lx5,h5,h6]; omega
   ·simp only [P3,XU]; omega
end Go.Proofs.YtdjpkhjaibdogaaGreat
namespace Go.Proofs.YtdjpkhjaibdogaaGreat
open Go Go.SX
attribute [local congr] ite_congr
def Nt (c:Cd) (x:Cx) (ev:Ev) (a0:Int) (r:Ru) (m:Nat):Ru × Bool:=if BT a0 m=true∧BT r.s.act m=true then D2 c x m ev r else (r,false)
def NJ (c:Cd) (x:Cx) (ev:Ev) (a0:Int):List Nat→Ru→Ru
 | [],r=>r
 | m::l,r=>if (Nt c x ev a0 r m).2=true then (Nt c x ev a0 r m).1 else NJ c x ev a0 l (Nt c x ev a0 r m).1
def EV (c:Cd) (x:Cx) (ev:Ev) (r:Ru):Ru:=if 0≤ev.mo then (D2 c x ev.mo ev r).1 else NJ c x ev r.s.act (IE c) r
def IV (c:Cd) (x:Cx) (ev:Ev) (a0:Int) (l:List Nat) (r:Ru):Ru:=l.foldl (fun r m=>(Nt c x ev a0 r m).1) r
theorem WN {c:Cd} {x:Cx} {ev:Ev} {a0:Int} {l:List Nat} {i:Nat} (h:i < l.length) (r:Ru):IV c x ev a0 (l.take (i+1)) r=(Nt c x ev a0 (IV c x ev a0 (l.take i) r) l[i]).1:=by
 rw [IV,lx115 h,List.foldl_append]; rfl
theorem Aqc {c:Cd} {x:Cx} {r:Ru} (h:RuI c x r) {m:Nat} (hm:m < c.pri.length) (ev:Ev) (a0:Int):
  RuI c x (Nt c x ev a0 r m).1∧(Nt c x ev a0 r m).1.ef.length≤r.ef.length+256∧(Nt c x ev a0 r m).1.po.length≤r.po.length+256:=by
 unfold Nt
 by_cases hz:BT a0 m=true∧BT r.s.act m=true
 ·rw [if_pos hz]; exact Ail h ⟨by omega,by omega⟩ ev
 ·rw [if_neg hz]; exact ⟨h,by simp,by simp⟩
theorem Aim {c:Cd} {x:Cx} {ev:Ev} {a0:Int}:∀ (l:List Nat) {r:Ru},RuI c x r→(∀ m ∈ l,m < c.pri.length)→
  RuI c x (IV c x ev a0 l r)∧(IV c x ev a0 l r).ef.length≤r.ef.length+256 * l.length∧(IV c x ev a0 l r).po.length≤r.po.length+256 * l.length
 | [],r,h,_=>⟨h,by simp [IV],by simp [IV]⟩
 | m::l,r,h,hl=>by
  obtain ⟨g1,g2,g3⟩:=Aqc h (hl m lx48) ev a0
  obtain ⟨k1,k2,k3⟩:=Aim (ev:=ev) (a0:=a0) l g1 (fun m' hm'=>hl m' (lx49 _ hm'))
  have e:IV c x ev a0 (m::l) r=IV c x ev a0 l (Nt c x ev a0 r m).1:=rfl
  rw [e,lx53]
  exact ⟨k1,by omega,by omega⟩
theorem L3 (c:Cd) (x:Cx) (ev:Ev) (a0:Int):∀ (l:List Nat) (r:Ru),∃ K,K≤l.length∧(∀ j,(h:j < l.length)→j < K→(Nt c x ev a0 (IV c x ev a0 (l.take j) r) l[j]).2=false)∧
  ((K=l.length∧NJ c x ev a0 l r=IV c x ev a0 (l.take K) r)∨(∃ h:K < l.length,(Nt c x ev a0 (IV c x ev a0 (l.take K) r) l[K]).2=true∧NJ c x ev a0 l r=IV c x ev a0 (l.take (K+1)) r))
 | [],r=>⟨0,Ax _,fun j h=>absurd h (by simp),.inl ⟨rfl,rfl⟩⟩
 | m::l,r=>by
  by_cases hz:(Nt c x ev a0 r m).2=true
  ·exact ⟨0,BX _,fun j _ h=>absurd h (by omega),.inr ⟨by simp,hz,by rw [NJ,if_pos hz]; rfl⟩⟩
  ·obtain ⟨K,h1,h2,h3⟩:=L3 c x ev a0 l (Nt c x ev a0 r m).1
   refine ⟨K+1,by simp; omega,fun j hj hK=>?_,?_⟩
   ·cases j with
    | zero=>exact (GY _).mp hz
    | succ j=>exact h2 j (by simpa using hj) (by omega)
   ·rw [NJ,if_neg hz]
    rcases h3 with ⟨g1,g2⟩ | ⟨g0,g1,g2⟩
    ·exact .inl ⟨by simp [g1],g2⟩
    ·exact .inr ⟨by simp; omega,g1,g2⟩
theorem Amu {c:Cd} {x:Cx} {ev:Ev} {r:Ru} (hm:ev.mo < c.pri.length) (h:RuI c x r):
  RuI c x (EV c x ev r)∧(EV c x ev r).ef.length≤r.ef.length+4096∧(EV c x ev r).po.length≤r.po.length+4096:=by
 unfold EV
 by_cases h0:0≤ev.mo
 ·rw [if_pos h0]
  obtain ⟨g1,g2,g3⟩:=Ail h ⟨h0,hm⟩ ev
  exact ⟨g1,by omega,by omega⟩
 ·rw [if_neg h0]
  have hvl:=Cw h.val
  have hln:=PX h.val
  have key:∀ i,RuI c x (IV c x ev r.s.act ((IE c).take i) r)∧(IV c x ev r.s.act ((IE c).take i) r).ef.length≤r.ef.length+4096∧(IV c x ev r.s.act ((IE c).take i) r).po.length≤r.po.length+4096:=fun i=>by
   obtain ⟨g1,g2,g3⟩:=Aim (ev:=ev) (a0:=r.s.act) ((IE c).take i) h (fun m hm=>Ts h.val (lx38 hm))
   rw [lx68] at g2 g3
   exact ⟨g1,by omega,by omega⟩
  obtain ⟨K,_,_,hK⟩:=L3 c x ev r.s.act (IE c) r
  rcases hK with ⟨_,g⟩ | ⟨_,_,g⟩
  ·rw [g]; exact key K
  ·rw [g]; exact key (K+1)
def JG (r:Ru):Ru:={ r with po:=[] }
def B7 (c:Cd) (x:Cx) (l:List Ev) (r:Ru):Nat→Ru × List Ev
 | 0=>(r,l)
 | i+1=>if i < (B7 c x l r i).2.length then
   (EV c x ((B7 c x l r i).2.getD i default) (JG (B7 c x l r i).1),(B7 c x l r i).2++(EV c x ((B7 c x l r i).2.getD i default) (JG (B7 c x l r i).1)).po)
  else B7 c x l r i
def F8 (c:Cd) (x:Cx) (l:List Ev) (r:Ru):Ru:=
 if 64 < (B7 c x l r 64).2.length then JD (B7 c x l r 64).1 else (B7 c x l r 64).1
theorem MQ {c:Cd} {x:Cx} {l:List Ev} {r:Ru} {i:Nat} (h:i < (B7 c x l r i).2.length):B7 c x l r (i+1)=
  (EV c x ((B7 c x l r i).2.getD i default) (JG (B7 c x l r i).1),(B7 c x l r i).2++(EV c x ((B7 c x l r i).2.getD i default) (JG (B7 c x l r i).1)).po):=by
 rw [B7,if_pos h]
theorem WO {c:Cd} {x:Cx} {l:List Ev} {r:Ru} {i:Nat} (h:(B7 c x l r i).2.length=i):∀ k,B7 c x l r (i+k)=B7 c x l r i
 | 0=>rfl
 | k+1=>by
  have ih:=WO h k
  rw [show i+(k+1)=(i+k)+1 by omega,B7,ih,if_neg (by omega)]
def PoI (c:Cd) (l:List Ev):Prop:=∀ e ∈ l,e.mo < c.pri.length
theorem PoI.add {c:Cd} {l:List Ev} (h:PoI c l) {e:Ev} (he:e.mo < c.pri.length):PoI c (l++[e]):=fun d hd=>by
 rcases lx76.1 hd with hd | hd
 ·exact h d hd
 ·rw [lx70.1 hd]; exact he
theorem PoI.app {c:Cd} {l m:List Ev} (h:PoI c l) (k:PoI c m):PoI c (l++m):=fun d hd=>by
 rcases lx76.1 hd with hd | hd
 ·exact h d hd
 ·exact k d hd
theorem At2 {c:Cd} {x:Cx} {m:Int} {f:Ef} {r:Ru} (hf:EfI c f) (h:PoI c r.po):PoI c (CT x m f r).po:=by
 unfold CT
 by_cases k21:f.k=21
 ·rw [if_pos k21]; exact h
 rw [if_neg k21]
 by_cases k22:f.k=22
 ·rw [if_pos k22]; exact h
 rw [if_neg k22]
 by_cases k23:f.k=23
 ·rw [if_pos k23]
  have ha:=hf.mod (.inl k23)
  by_cases hz:BT r.s.act f.a=true
  ·rw [if_pos hz]; exact h
  ·rw [if_neg hz]; exact h.add ha.2
 rw [if_neg k23]
 by_cases k24:f.k=24
 ·rw [if_pos k24]
  have ha:=hf.mod (.inr k24)
  by_cases hz:BT r.s.act f.a=true
  ·rw [if_pos hz]; exact h.add ha.2
  ·rw [if_neg hz]; exact h
 rw [if_neg k24]
 by_cases k25:f.k=25
 ·rw [if_pos k25]; exact h.add (by show (-1:Int) < _; omega)
 rw [if_neg k25]
 by_cases k19:f.k=19
 ·rw [if_pos k19]; unfold DU; by_cases hz:BT r.s.act m=true
  ·rw [if_pos hz]; exact h
  ·rw [if_neg hz]; exact h
 rw [if_neg k19]
 by_cases k20:f.k=20
 ·rw [if_pos k20]; unfold DU; by_cases hz:BT r.s.act m=true
  ·rw [if_pos hz]; exact h
  ·rw [if_neg hz]; exact h
 rw [if_neg k20]; exact h
theorem Ain {c:Cd} {x:Cx} {m:Int}:∀ (l:List Ef) {r:Ru},(∀ f ∈ l,EfI c f)→PoI c r.po→PoI c (appL x m l r).po
 | [],_,_,h=>h
 | f::l,_,hf,h=>Ain l (fun g hg=>hf g (lx49 _ hg)) (At2 (hf f lx48) h)
theorem Aio {c:Cd} {x:Cx} {r:Ru} (h:RuI c x r) (m:Int) (ev:Ev) (hp:PoI c r.po):PoI c (D2 c x m ev r).1.po:=by
 rw [D2]
 cases hn:ET c m ev.tr ev.ix with
 | none=>exact hp
 | some en=>
  simp only
  cases hy:Hi c (DQ r.s x) en.pc with
  | none=>exact hp
  | some y=>
   obtain ⟨g1,g2,g3,g4⟩:=Ty (h.exe hn) hy
   exact Ain y.2.1 (r:=L1 y.1 r) g4 hp
theorem Aqd {c:Cd} {x:Cx} {ev:Ev} {a0:Int}:∀ (l:List Nat) {r:Ru},RuI c x r→(∀ m ∈ l,m < c.pri.length)→PoI c r.po→PoI c (IV c x ev a0 l r).po
 | [],_,_,_,h=>h
 | m::l,r,h,hl,hp=>by
  have e:IV c x ev a0 (m::l) r=IV c x ev a0 l (Nt c x ev a0 r m).1:=rfl
  rw [e]
  refine Aqd l (Aqc h (hl m lx48) ev a0).1 (fun m' hm'=>hl m' (lx49 _ hm')) ?_
  unfold Nt
  by_cases hz:BT a0 m=true∧BT r.s.act m=true
  ·rw [if_pos hz]; exact Aio h m ev hp
  ·rw [if_neg hz]; exact hp
theorem Amv {c:Cd} {x:Cx} {ev:Ev} {r:Ru} (h:RuI c x r) (hp:PoI c r.po):PoI c (EV c x ev r).po:=by
 unfold EV
 by_cases h0:0≤ev.mo
 ·rw [if_pos h0]; exact Aio h _ ev hp
 ·rw [if_neg h0]
  obtain ⟨K,_,_,hK⟩:=L3 c x ev r.s.act (IE c) r
  have key:∀ i,PoI c (IV c x ev r.s.act ((IE c).take i) r).po:=fun i=>Aqd _ h (fun m hm=>Ts h.val (lx38 hm)) hp
  rcases hK with ⟨_,g⟩ | ⟨_,_,g⟩
  ·rw [g]; exact key K
  ·rw [g]; exact key (K+1)
theorem Aip {c:Cd} {x:Cx} {r:Ru} (h:RuI c x r):RuI c x (JG r):=
 ⟨h.val,h.fit,h.cx,h.vl,h.va,h.ll,h.lf,h.ac,h.fa,h.lo,h.so⟩
structure QuI (c:Cd) (x:Cx) (n0 e0 i:Nat) (q:Ru × List Ev):Prop where
 ru:RuI c x q.1
 po:PoI c q.2
 ef:q.1.ef.length≤e0+4096 * i
 le:q.2.length≤n0+4096 * i
 pl:q.1.po.length≤4096
theorem XY {c:Cd} {x:Cx} {l:List Ev} {r:Ru} (h:RuI c x r) (hl:PoI c l) (hp:r.po.length≤4096):∀ i,QuI c x l.length r.ef.length i (B7 c x l r i)
 | 0=>⟨h,hl,by simp [B7],by simp [B7],hp⟩
 | i+1=>by
  obtain ⟨g1,g2,g3,g4,g5⟩:=XY h hl hp i
  by_cases hi:i < (B7 c x l r i).2.length
  ·rw [MQ hi]
   have hm:((B7 c x l r i).2.getD i default).mo < c.pri.length:=by
    rw [lx80,lx51 hi]
    exact g2 _ (lx90 hi)
   obtain ⟨k1,k2,k3⟩:=Amu hm (Aip g1)
   have k4:=Amv (ev:=(B7 c x l r i).2.getD i default) (Aip g1) (fun e he=>by simp [JG] at he)
   have e1:(JG (B7 c x l r i).1).ef=(B7 c x l r i).1.ef:=rfl
   have e2:(JG (B7 c x l r i).1).po=[]:=rfl
   rw [e1] at k2
   rw [e2,lx63] at k3
   refine ⟨k1,g2.app k4,?_,?_,?_⟩
   ·simp only; omega
   ·simp only [lx5]; omega
   ·simp only; omega
  ·have e:B7 c x l r (i+1)=B7 c x l r i:=by rw [B7,if_neg hi]
   rw [e]
   exact ⟨g1,g2,by omega,by omega,g5⟩
theorem Acu {c:Cd} {x:Cx} {l:List Ev} {r:Ru} {i:Nat} (hi:i≤64) (h:(B7 c x l r i).2.length=i):F8 c x l r=(B7 c x l r i).1:=by
 have e:B7 c x l r 64=B7 c x l r i:=by
  have:=WO h (64 - i)
  rwa [show i+(64 - i)=64 by omega] at this
 rw [F8,e,if_neg (by omega)]
theorem Aiq {c:Cd} {x:Cx} {l:List Ev} {r:Ru}:∀ i,(∀ j,j < i→j < (B7 c x l r j).2.length)→i≤(B7 c x l r i).2.length
 | 0,_=>BX _
 | i+1,h=>by
  have:=h i (by omega)
  rw [MQ this,lx5]; omega
end Go.Proofs.YtdjpkhjaibdogaaGreat
