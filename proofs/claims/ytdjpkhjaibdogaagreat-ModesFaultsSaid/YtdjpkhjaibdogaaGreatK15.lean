/-
  Lemmas towards ModesFaults (joined texts: SXS, SXW, SXZ).
  Conditions: none.
-/
import Derived.Test.YtdjpkhjaibdogaaGreatK01
import Derived.Test.YtdjpkhjaibdogaaGreatK14
set_option linter.unusedSimpArgs false
set_option linter.unusedVariables false
set_option maxRecDepth 100000
namespace Go.SX
open Go.RowKit (Below)
mutual
def Gq (id ver:Nat) (els:List AV):AV→AV
 | .sl i v lo n=>if i=id∧v=ver then .vw false ((els.drop lo).take n) else .sl i v lo n
 | .ag cs=>.ag (F3 id ver els cs)
 | .sc v=>.sc v
 | .tu vs=>.tu vs
 | .pt a b c d=>.pt a b c d
 | .vw z es=>.vw z es
 | .vp es i o=>.vp es i o
 | .fn f c=>.fn f c
 | .un=>.un
 | .jk=>.jk
def F3 (id ver:Nat) (els:List AV):List AV→List AV
 | []=>[]
 | a::l=>Gq id ver els a::F3 id ver els l
end
def Awj (id ver:Nat) (els:List AV) (b:Blk):Blk:=⟨b.live,b.ver,b.ty,b.esz,F3 id ver els b.els,b.tmp⟩
def Ka (id ver:Nat) (els:List AV) (lo:Nat):Nat→List Blk→List Blk
 | _,[]=>[]
 | i,b::H=>(if i=id then dead else if i < lo then b else ⟨b.live,b.ver,b.ty,b.esz,F3 id ver els b.els,b.tmp⟩)::Ka id ver els lo (i+1) H
def Agc (id ver:Nat) (els:List AV):AV→AV
 | .tu vs=>.tu (F3 id ver els vs)
 | a=>Gq id ver els a
mutual
theorem Pv (id:Nat) (B:Blk):∀ a,Frz id B a (Gq id B.ver B.els a)
 | .sl i v lo n=>by
  simp only [Gq]
  split
  ·rename_i h
   obtain ⟨rfl,rfl⟩:=h
   exact .sl lo n
  ·exact .same _
 | .ag cs=>by
  simp only [Gq]
  exact .ag (HS id B cs).1 (HS id B cs).2
 | .sc v=>.same _
 | .tu vs=>.same _
 | .pt ..=>.same _
 | .vw ..=>.same _
 | .vp ..=>.same _
 | .fn ..=>.same _
 | .un=>.same _
 | .jk=>.same _
theorem HS (id:Nat) (B:Blk):∀ l:List AV,l.length=(F3 id B.ver B.els l).length∧∀ (i:Nat) (a b:AV),l[i]?=some a→(F3 id B.ver B.els l)[i]?=some b→Frz id B a b
 | []=>⟨rfl,fun i a b h=>by simp at h⟩
 | x::l=>by
  obtain ⟨h1,h2⟩:=HS id B l
  refine ⟨by simp [F3,h1],fun i a b ha hb=>?_⟩
  cases i with
  | zero=>
   simp only [F3,lx45,lx16] at ha hb
   subst ha; subst hb
   exact Pv id B x
  | succ i=>
   simp only [F3,lx54] at ha hb
   exact h2 i a b ha hb
end
theorem Mr (id:Nat) (B:Blk):∀ T:List AV,Xa id B T (F3 id B.ver B.els T)
 | []=>trivial
 | a::T=>⟨Pv id B a,Mr id B T⟩
theorem Xm (id:Nat) (B:Blk) (e:AV):e.cells.length=(Gq id B.ver B.els e).cells.length∧∀ (j:Nat) (a a':AV),e.cells[j]?=some a→(Gq id B.ver B.els e).cells[j]?=some a'→Frz id B a a':=by
 have one:∀ x y:AV,Frz id B x y→∀ (j:Nat) (a a':AV),[x][j]?=some a→[y][j]?=some a'→Frz id B a a':=by
  intro x y h j a a' h1 h2
  cases j with
  | zero=>simp at h1 h2; subst h1; subst h2; exact h
  | succ j=>simp at h1
 cases e with
 | ag cs=>
  simp only [Gq,AV.cells]
  exact ⟨(HS id B cs).1,(HS id B cs).2⟩
 | sl i v lo n=>
  have:=Pv id B (.sl i v lo n)
  simp only [Gq] at this ⊢
  split
  ·rename_i h
   rw [if_pos h] at this
   exact ⟨rfl,one _ _ this⟩
  ·exact ⟨rfl,one _ _ (.same _)⟩
 | _=>exact ⟨rfl,one _ _ (.same _)⟩
theorem Mt (id:Nat) (B:Blk) (lo:Nat):∀ (H:List Blk) (i k:Nat) (A':Blk),(Ka id B.ver B.els lo i H)[k]?=some A'→A'.live=true→i+k≠id∧∃ A,H[k]?=some A∧FrzB id B A A'
 | [],i,k,A',h,_=>by simp [Ka] at h
 | b::H,i,0,A',h,hl=>by
  simp only [Ka,lx45,lx16] at h
  split at h
  ·subst h; cases hl
  ·rename_i hne
   split at h
   ·subst h
    exact ⟨by simpa using hne,b,rfl,FrzB.refl hl⟩
   subst h
   refine ⟨by simpa using hne,b,rfl,hl,rfl,rfl,rfl,(HS id B b.els).1,fun j e e' he he'=>?_⟩
   have hj:=frz_at id B b.els j e e' he he'
   subst hj
   exact Xm id B e
 | b::H,i,k+1,A',h,hl=>by
  simp only [Ka,lx54] at h
  have:=Mt id B lo H (i+1) k A' h hl
  refine ⟨by have:=this.1; omega,?_⟩
  simpa using this.2
where
 frz_at (id:Nat) (B:Blk):∀ (l:List AV) (j:Nat) (e e':AV),l[j]?=some e→(F3 id B.ver B.els l)[j]?=some e'→e'=Gq id B.ver B.els e
  | [],j,e,e',h,_=>by simp at h
  | x::l,0,e,e',h,h'=>by simp [F3] at h h'; rw [←h,←h']
  | x::l,j+1,e,e',h,h'=>by
   simp only [F3,lx54] at h h'
   exact frz_at id B l j e e' h h'
theorem LD {l:List AV} (h:norefs l=true):∀ e ∈ l,∀ a ∈ e.cells,a.noref=true:=by
 induction l with
 | nil=>intro e he; simp at he
 | cons x l ih=>
  simp only [norefs,AH] at h
  intro e he a ha
  rcases lx59.1 he with rfl | he
  ·cases e with
   | ag cs=>
    have hn:norefs cs=true:=by simpa [AV.noref] using h.1
    simp only [AV.cells] at ha
    clear h he ih
    induction cs with
    | nil=>simp at ha
    | cons y cs ihc=>
     simp only [norefs,AH] at hn
     rcases lx59.1 ha with rfl | ha
     ·exact hn.1
     ·exact ihc ha hn.2
   | _=>
    simp only [AV.cells,lx70] at ha
    rw [ha]; exact h.1
  ·exact ih h.2 e he a ha
section
variable {P:Program} {E:Env} {n0:Nat} {rs:List ResultVar} {R:AV→St→Prop}
theorem Arl {k:List Item} {T:List AV} {H:List Blk} {c:Nat} (lo id:Nat) (B:Blk) (hB:H[id]?=some B) (hl:B.live=true) (hid:n0≤id) (hn:norefs B.els=true)
  (h:Go P E n0 rs R k ⟨F3 id B.ver B.els T,Ka id B.ver B.els lo 0 H,c⟩):Go P E n0 rs R k ⟨T,H,c⟩:=
 Abi id B hB hl hid (LD hn) (Mr id B T) (fun k A' h1 h2=>by
  have:=Mt id B lo H 0 k A' h1 h2
  rwa [BO] at this) (Ax _) h
end
theorem HSpec.wk {P:Program} {f:FuncId} {args:List AV} {H H' H'':List Blk} {cnt cnt' cnt'':Nat} {r r':AV} (h:HSpec P f args H cnt r H' cnt') (h0:WkV H' r r') (h1:VV H' H' H'') (h2:cnt'≤cnt''):
  HSpec P f args H cnt r' H'' cnt'':=by
 refine ⟨h.1,fun w X loc cargs hr hv=>(h.2 w X loc cargs hr hv).mono ?_⟩
 rintro e w' ⟨X',loc',c,rfl,g1,g2,g3⟩
 obtain ⟨q1,q2⟩:=Agb (hc:=⟨loc',H',cnt'⟩) (H':=H'') (cnt':=cnt'') g1 h1 h2
 exact ⟨X',loc',c,rfl,q1,(Mq (hc:=⟨loc',H',cnt'⟩) h0 g2).mono q2 g1,g3.trans q2⟩
theorem HSpec.frz {P:Program} {f:FuncId} {args:List AV} {H H':List Blk} {cnt cnt':Nat} {r:AV} (h:HSpec P f args H cnt r H' cnt') (lo id:Nat) (B:Blk) (hB:H'[id]?=some B) (hl:B.live=true) (hid:H.length≤id) (hn:norefs B.els=true):
  HSpec P f args H cnt (Agc id B.ver B.els r) (Ka id B.ver B.els lo 0 H') cnt':=by
 refine ⟨h.1,fun w X loc cargs hr hv=>(h.2 w X loc cargs hr hv).mono ?_⟩
 rintro e w' ⟨X',loc',c,rfl,g1,g2,g3⟩
 have key:∀ (T:List AV) (vs:List Value),VL w' X' (some ⟨loc',H',cnt'⟩) T vs→∃ X2 loc2,HR w' X2 ⟨loc2,Ka id B.ver B.els lo 0 H',cnt'⟩∧VL w' X2 (some ⟨loc2,Ka id B.ver B.els lo 0 H',cnt'⟩) (F3 id B.ver B.els T) vs∧Evo w X ⟨loc,H,cnt⟩ w' X2 ⟨loc2,Ka id B.ver B.els lo 0 H',cnt'⟩:=by
  intro T vs hT
  obtain ⟨X2,loc2,q1,q2⟩:=Mj (n0:=H.length) (T:=T) (T':=F3 id B.ver B.els T) (H:=H') (H':=Ka id B.ver B.els lo 0 H') (c:=cnt') (c':=cnt') (loc:=loc') (a:={ tmps:=vs.toArray,defers:=[] }) id B ⟨g1,by simpa [St.hc] using hT,rfl⟩ hB hl hid (LD hn) (Mr id B T)
   (fun k A' h1 h2=>by
    have:=Mt id B lo H' 0 k A' h1 h2
    rwa [BO] at this) (Ax _)
  exact ⟨X2,loc2,q1.hr,by simpa [St.hc] using q1.tm,q2 w X ⟨loc,H,cnt⟩ rfl g3⟩
 by_cases hr:∃ vs,r=.tu vs
 ·obtain ⟨vs,rfl⟩:=hr
  cases g2 with
  | tu hl' h1'=>
   rename_i us
   obtain ⟨X2,loc2,q1,q2,q3⟩:=key vs us ⟨hl',h1'⟩
   exact ⟨X2,loc2,_,rfl,q1,.tu q2.1 q2.2,q3⟩
 ·obtain ⟨X2,loc2,q1,q2,q3⟩:=key [r] [c] ⟨rfl,fun i a v h1 h2=>by
   cases i with
   | zero=>simp at h1 h2; subst h1; subst h2; exact g2
   | succ i=>simp at h1⟩
  refine ⟨X2,loc2,c,rfl,q1,?_,q3⟩
  have:=q2.2 0 (Gq id B.ver B.els r) c rfl rfl
  have e:Agc id B.ver B.els r=Gq id B.ver B.els r:=by
   cases r with
   | tu vs=>exact absurd ⟨vs,rfl⟩ hr
   | _=>rfl
  rw [e]; exact this
section
variable (id ver:Nat) (els:List AV)
theorem Akm (i v lo n:Nat):Gq id ver els (.sl i v lo n)=if i=id∧v=ver then .vw false ((els.drop lo).take n) else .sl i v lo n:=rfl
theorem Akn (cs:List AV):Gq id ver els (.ag cs)=.ag (F3 id ver els cs):=rfl
theorem Ako (v:Value):Gq id ver els (.sc v)=.sc v:=rfl
theorem Akp (v:List AV):Gq id ver els (.tu v)=.tu v:=rfl
theorem Akq (a b c d:Nat):Gq id ver els (.pt a b c d)=.pt a b c d:=rfl
theorem Akr (z:Bool) (es:List AV):Gq id ver els (.vw z es)=.vw z es:=rfl
theorem Aks (es:List AV) (i o:Nat):Gq id ver els (.vp es i o)=.vp es i o:=rfl
theorem Akt (f:Nat) (c:List AV):Gq id ver els (.fn f c)=.fn f c:=rfl
theorem Aku:Gq id ver els .un=.un:=rfl
theorem Akv:Gq id ver els .jk=.jk:=rfl
theorem Agd:F3 id ver els []=[]:=rfl
theorem Abm (a:AV) (l:List AV):F3 id ver els (a::l)=Gq id ver els a::F3 id ver els l:=rfl
theorem Age (lo i:Nat):Ka id ver els lo i []=[]:=rfl
theorem Abn (lo i:Nat) (b:Blk) (H:List Blk):Ka id ver els lo i (b::H)=(if i=id then dead else if i < lo then b else Awj id ver els b)::Ka id ver els lo (i+1) H:=rfl
theorem Akw (l:Bool) (v t e:Nat) (es:List AV) (p:Bool):Awj id ver els ⟨l,v,t,e,es,p⟩=⟨l,v,t,e,F3 id ver els es,p⟩:=rfl
theorem Akx (v:List AV):Agc id ver els (.tu v)=.tu (F3 id ver els v):=rfl
theorem ZE (i v lo n:Nat):Agc id ver els (.sl i v lo n)=if i=id∧v=ver then .vw false ((els.drop lo).take n) else .sl i v lo n:=rfl
end
mutual
def Xn (a b:Nat):AV→AV
 | .sl i v lo n=>.sl (Ks a b i) v lo n
 | .pt i v k o=>.pt (Ks a b i) v k o
 | .ag cs=>.ag (SF a b cs)
 | .sc v=>.sc v
 | .tu _=>.jk
 | .vw z es=>.vw z es
 | .vp es i o=>.vp es i o
 | .fn f c=>if norefs c=true then .fn f c else .jk
 | .un=>.un
 | .jk=>.jk
def SF (a b:Nat):List AV→List AV
 | []=>[]
 | x::l=>Xn a b x::SF a b l
end
def swB (a b:Nat) (x:Blk):Blk:=⟨x.live,x.ver,x.ty,x.esz,SF a b x.els,x.tmp⟩
def swM (a b:Nat):List Blk→List Blk
 | []=>[]
 | x::H=>swB a b x::swM a b H
def swH (a b:Nat) (H:List Blk):List Blk:=swM a b ((H.set a (H.getD b dead)).set b (H.getD a dead))
def Np:List Blk→Bool
 | []=>true
 | b::H=>Gj b.els && Np H
mutual
theorem ZF (a b:Nat):∀ x,Ren a b x (Xn a b x)
 | .sl i v lo n=>.sl i v lo n
 | .pt i v k o=>.pt i v k o
 | .ag cs=>.ag (SG a b cs).1 (SG a b cs).2
 | .sc v=>.same rfl
 | .tu _=>.jk
 | .vw z es=>.same rfl
 | .vp es i o=>.same rfl
 | .fn f c=>by
  simp only [Xn]
  split
  ·rename_i h
   exact .same (by simpa [AV.noref] using h)
  ·exact .jk
 | .un=>.same rfl
 | .jk=>.same rfl
theorem SG (a b:Nat):∀ l:List AV,l.length=(SF a b l).length∧∀ (i:Nat) (c d:AV),l[i]?=some c→(SF a b l)[i]?=some d→Ren a b c d
 | []=>⟨rfl,fun i c d h=>by simp at h⟩
 | x::l=>by
  obtain ⟨h1,h2⟩:=SG a b l
  refine ⟨by simp [SF,h1],fun i c d hc hd=>?_⟩
  cases i with
  | zero=>
   simp only [SF,lx45,lx16] at hc hd
   subst hc; subst hd
   exact ZF a b x
  | succ i=>
   simp only [SF,lx54] at hc hd
   exact h2 i c d hc hd
end
theorem Pw (a b:Nat):∀ l:List AV,Abj a b l (SF a b l)
 | []=>trivial
 | x::l=>⟨ZF a b x,Pw a b l⟩
theorem ZG (a b:Nat):∀ (H:List Blk) (j:Nat),(swM a b H)[j]?=H[j]?.map (swB a b)
 | [],j=>rfl
 | x::H,0=>rfl
 | x::H,j+1=>by simp only [swM,lx54]; exact ZG a b H j
theorem RO:∀ {H:List Blk},Np H=true→∀ (j:Nat) (A:Blk),H[j]?=some A→Gj A.els=true
 | [],_,j,A,h=>by simp at h
 | x::H,hn,0,A,h=>by
  simp only [Np,AH] at hn
  simp only [lx45,lx16] at h
  subst h; exact hn.1
 | x::H,hn,j+1,A,h=>by
  simp only [Np,AH] at hn
  exact RO hn.2 j A (by simpa using h)
section
variable {P:Program} {E:Env} {n0:Nat} {rs:List ResultVar} {R:AV→St→Prop}
theorem Mu {k:List Item} {T:List AV} {H:List Blk} {c:Nat} (a b:Nat) (ha:n0≤a) (hb:n0≤b) (hla:a < H.length) (hlb:b < H.length) (hj:Np (swH a b H)=true)
  (h:Go P E n0 rs R k ⟨SF a b T,swH a b H,c⟩):Go P E n0 rs R k ⟨T,H,c⟩:=by
 refine Akj a b ha hb (Pw a b T) (fun j A' h1 h2=>?_) h
 have hn:=RO hj j A' h1
 have key:∀ A:Blk,A.live=true→A'=swB a b A→Aki a b A A':=by
  rintro A hl rfl
  exact ⟨hl,rfl,rfl,rfl,Pw a b A.els,LB hn⟩
 unfold swH at h1
 rw [ZG] at h1
 obtain ⟨A,hA,rfl⟩:=lx24.1 h1
 refine ⟨A,?_,key A h2 rfl⟩
 rw [lx21,lx21] at hA
 unfold Ks
 by_cases hjb:b=j
 ·subst hjb
  rw [if_pos rfl,lx2,if_pos hlb] at hA
  by_cases hab:b=a
  ·subst hab
   rw [if_pos rfl]
   exact Aog
  ·rw [if_neg hab,if_pos rfl]
   exact Aog
 ·rw [if_neg hjb] at hA
  by_cases hja:a=j
  ·subst hja
   rw [if_pos rfl,if_pos hla] at hA
   rw [if_pos rfl]
   rw [lx80,lx51 hlb] at hA
   rw [lx51 hlb]
   simpa using hA
  ·rw [if_neg hja] at hA
   rw [if_neg (fun h=>hja h.symm),if_neg (fun h=>hjb h.symm)]
   exact hA
end
section
variable (a b:Nat)
theorem NP (i:Nat):Ks a b i=if i=a then b else if i=b then a else i:=rfl
theorem SH (i v lo n:Nat):Xn a b (.sl i v lo n)=.sl (Ks a b i) v lo n:=rfl
theorem SI (i v k o:Nat):Xn a b (.pt i v k o)=.pt (Ks a b i) v k o:=rfl
theorem SJ (cs:List AV):Xn a b (.ag cs)=.ag (SF a b cs):=rfl
theorem SK (v:Value):Xn a b (.sc v)=.sc v:=rfl
theorem SL (v:List AV):Xn a b (.tu v)=.jk:=rfl
theorem SM (z:Bool) (es:List AV):Xn a b (.vw z es)=.vw z es:=rfl
theorem SN (es:List AV) (i o:Nat):Xn a b (.vp es i o)=.vp es i o:=rfl
theorem SO (f:Nat):Xn a b (.fn f [])=.fn f []:=rfl
theorem SP:Xn a b .un=.un:=rfl
theorem SQ:Xn a b .jk=.jk:=rfl
theorem NQ:SF a b []=[]:=rfl
theorem LF (x:AV) (l:List AV):SF a b (x::l)=Xn a b x::SF a b l:=rfl
theorem SS {α:Type} {f:α→AV} (h:∀ x,Xn a b (f x)=f x):∀ l:List α,SF a b (l.map f)=l.map f
 | []=>rfl
 | x::l=>by rw [lx32,SF,h,SS h l]
theorem SU (l:Bool) (v t e:Nat) (es:List AV) (p:Bool):swB a b ⟨l,v,t,e,es,p⟩=⟨l,v,t,e,SF a b es,p⟩:=rfl
theorem NR:swM a b []=[]:=rfl
theorem LG (x:Blk) (H:List Blk):swM a b (x::H)=swB a b x::swM a b H:=rfl
theorem NS (H:List Blk):swH a b H=swM a b ((H.set a (H.getD b dead)).set b (H.getD a dead)):=rfl
theorem RP:Np []=true:=rfl
theorem Px (x:Blk) (H:List Blk):Np (x::H)=(Gj x.els && Np H):=rfl
theorem HU {α:Type} {f:α→AV} (h:∀ x,f x≠.jk):∀ l:List α,Gj (l.map f)=true
 | []=>rfl
 | x::l=>by
  have:=h x
  rw [lx32]
  cases hx:f x <;> first | exact absurd hx this | exact HU h l
end
end Go.SX
namespace Go.SX
section
variable {P:Program} {E:Env} {n0:Nat} {rs:List ResultVar} {R:AV→St→Prop} {k:List Item}
end
section
variable {α:Type}
theorem st0 (a0 v:α) (l:List α):(a0::l).set 0 v=v::l:=rfl
theorem gd0 (a0 v:α) (l:List α):(a0::l).getD 0 v=a0:=rfl
theorem st1 (a0 a1 v:α) (l:List α):(a0::a1::l).set 1 v=a0::v::l:=rfl
theorem gd1 (a0 a1 v:α) (l:List α):(a0::a1::l).getD 1 v=a1:=rfl
theorem st2 (a0 a1 a2 v:α) (l:List α):(a0::a1::a2::l).set 2 v=a0::a1::v::l:=rfl
theorem gd2 (a0 a1 a2 v:α) (l:List α):(a0::a1::a2::l).getD 2 v=a2:=rfl
theorem st3 (a0 a1 a2 a3 v:α) (l:List α):(a0::a1::a2::a3::l).set 3 v=a0::a1::a2::v::l:=rfl
theorem gd3 (a0 a1 a2 a3 v:α) (l:List α):(a0::a1::a2::a3::l).getD 3 v=a3:=rfl
theorem st4 (a0 a1 a2 a3 a4 v:α) (l:List α):(a0::a1::a2::a3::a4::l).set 4 v=a0::a1::a2::a3::v::l:=rfl
theorem gd4 (a0 a1 a2 a3 a4 v:α) (l:List α):(a0::a1::a2::a3::a4::l).getD 4 v=a4:=rfl
theorem st5 (a0 a1 a2 a3 a4 a5 v:α) (l:List α):(a0::a1::a2::a3::a4::a5::l).set 5 v=a0::a1::a2::a3::a4::v::l:=rfl
theorem gd5 (a0 a1 a2 a3 a4 a5 v:α) (l:List α):(a0::a1::a2::a3::a4::a5::l).getD 5 v=a5:=rfl
theorem st6 (a0 a1 a2 a3 a4 a5 a6 v:α) (l:List α):(a0::a1::a2::a3::a4::a5::a6::l).set 6 v=a0::a1::a2::a3::a4::a5::v::l:=rfl
theorem gd6 (a0 a1 a2 a3 a4 a5 a6 v:α) (l:List α):(a0::a1::a2::a3::a4::a5::a6::l).getD 6 v=a6:=rfl
theorem st7 (a0 a1 a2 a3 a4 a5 a6 a7 v:α) (l:List α):(a0::a1::a2::a3::a4::a5::a6::a7::l).set 7 v=a0::a1::a2::a3::a4::a5::a6::v::l:=rfl
theorem gd7 (a0 a1 a2 a3 a4 a5 a6 a7 v:α) (l:List α):(a0::a1::a2::a3::a4::a5::a6::a7::l).getD 7 v=a7:=rfl
theorem st8 (a0 a1 a2 a3 a4 a5 a6 a7 a8 v:α) (l:List α):(a0::a1::a2::a3::a4::a5::a6::a7::a8::l).set 8 v=a0::a1::a2::a3::a4::a5::a6::a7::v::l:=rfl
theorem gd8 (a0 a1 a2 a3 a4 a5 a6 a7 a8 v:α) (l:List α):(a0::a1::a2::a3::a4::a5::a6::a7::a8::l).getD 8 v=a8:=rfl
theorem st9 (a0 a1 a2 a3 a4 a5 a6 a7 a8 a9 v:α) (l:List α):(a0::a1::a2::a3::a4::a5::a6::a7::a8::a9::l).set 9 v=a0::a1::a2::a3::a4::a5::a6::a7::a8::v::l:=rfl
theorem gd9 (a0 a1 a2 a3 a4 a5 a6 a7 a8 a9 v:α) (l:List α):(a0::a1::a2::a3::a4::a5::a6::a7::a8::a9::l).getD 9 v=a9:=rfl
theorem Awl (a0 a1 a2 a3 a4 a5 a6 a7 a8 a9 Hk v:α) (l:List α):(a0::a1::a2::a3::a4::a5::a6::a7::a8::a9::Hk::l).set 10 v=a0::a1::a2::a3::a4::a5::a6::a7::a8::a9::v::l:=rfl
theorem Awm (a0 a1 a2 a3 a4 a5 a6 a7 a8 a9 Hk v:α) (l:List α):(a0::a1::a2::a3::a4::a5::a6::a7::a8::a9::Hk::l).getD 10 v=Hk:=rfl
theorem Awn (a0 a1 a2 a3 a4 a5 a6 a7 a8 a9 Hk HH v:α) (l:List α):(a0::a1::a2::a3::a4::a5::a6::a7::a8::a9::Hk::HH::l).set 11 v=a0::a1::a2::a3::a4::a5::a6::a7::a8::a9::Hk::v::l:=rfl
theorem Awo (a0 a1 a2 a3 a4 a5 a6 a7 a8 a9 Hk HH v:α) (l:List α):(a0::a1::a2::a3::a4::a5::a6::a7::a8::a9::Hk::HH::l).getD 11 v=HH:=rfl
theorem Awp (a0 a1 a2 a3 a4 a5 a6 a7 a8 a9 Hk HH Hd v:α) (l:List α):(a0::a1::a2::a3::a4::a5::a6::a7::a8::a9::Hk::HH::Hd::l).set 12 v=a0::a1::a2::a3::a4::a5::a6::a7::a8::a9::Hk::HH::v::l:=rfl
theorem Awq (a0 a1 a2 a3 a4 a5 a6 a7 a8 a9 Hk HH Hd v:α) (l:List α):(a0::a1::a2::a3::a4::a5::a6::a7::a8::a9::Hk::HH::Hd::l).getD 12 v=Hd:=rfl
theorem Awr (a0 a1 a2 a3 a4 a5 a6 a7 a8 a9 Hk HH Hd I8 v:α) (l:List α):(a0::a1::a2::a3::a4::a5::a6::a7::a8::a9::Hk::HH::Hd::I8::l).set 13 v=a0::a1::a2::a3::a4::a5::a6::a7::a8::a9::Hk::HH::Hd::v::l:=rfl
theorem Aws (a0 a1 a2 a3 a4 a5 a6 a7 a8 a9 Hk HH Hd I8 v:α) (l:List α):(a0::a1::a2::a3::a4::a5::a6::a7::a8::a9::Hk::HH::Hd::I8::l).getD 13 v=I8:=rfl
theorem Awt (a0 a1 a2 a3 a4 a5 a6 a7 a8 a9 Hk HH Hd I8 a14 v:α) (l:List α):(a0::a1::a2::a3::a4::a5::a6::a7::a8::a9::Hk::HH::Hd::I8::a14::l).set 14 v=a0::a1::a2::a3::a4::a5::a6::a7::a8::a9::Hk::HH::Hd::I8::v::l:=rfl
theorem Awu (a0 a1 a2 a3 a4 a5 a6 a7 a8 a9 Hk HH Hd I8 a14 v:α) (l:List α):(a0::a1::a2::a3::a4::a5::a6::a7::a8::a9::Hk::HH::Hd::I8::a14::l).getD 14 v=a14:=rfl
theorem Awv (a0 a1 a2 a3 a4 a5 a6 a7 a8 a9 Hk HH Hd I8 a14 a15 v:α) (l:List α):(a0::a1::a2::a3::a4::a5::a6::a7::a8::a9::Hk::HH::Hd::I8::a14::a15::l).set 15 v=a0::a1::a2::a3::a4::a5::a6::a7::a8::a9::Hk::HH::Hd::I8::a14::v::l:=rfl
theorem Aww (a0 a1 a2 a3 a4 a5 a6 a7 a8 a9 Hk HH Hd I8 a14 a15 v:α) (l:List α):(a0::a1::a2::a3::a4::a5::a6::a7::a8::a9::Hk::HH::Hd::I8::a14::a15::l).getD 15 v=a15:=rfl
theorem Awx (a0 a1 a2 a3 a4 a5 a6 a7 a8 a9 Hk HH Hd I8 a14 a15 v:α) (l:List α) (n:Nat):(a0::a1::a2::a3::a4::a5::a6::a7::a8::a9::Hk::HH::Hd::I8::a14::a15::l).set (n+16) v=a0::a1::a2::a3::a4::a5::a6::a7::a8::a9::Hk::HH::Hd::I8::a14::a15::l.set n v:=rfl
theorem Awy (a0 a1 a2 a3 a4 a5 a6 a7 a8 a9 Hk HH Hd I8 a14 a15 v:α) (l:List α) (n:Nat):(a0::a1::a2::a3::a4::a5::a6::a7::a8::a9::Hk::HH::Hd::I8::a14::a15::l).getD (n+16) v=l.getD n v:=rfl
end
theorem Bg:type_of% (aI (aI (b8 (b8 (b8 @Aep @Aeq @Ug @YH @Aer @Uh @OL @YI) (b8 @Q1 @YJ @Ui @OM @M7 @Kj @YK @Uj) (b8 @Q2 @YL @YM @Uk @Q4 @Aou @Aov @Q5) (b8 @Ul @OO @OP @M8 @Q6 @OQ @OR @YN) (b8 @YO @Aow @YP @Aes @Um @YQ @Aet @Uo) (b8 @YR @YS @Q7 @YT @Q8 @Up @YU @Q9) (b8 @Ra @YV @Rb @YW @Rd @M9 @Kl @Uq) (b8 @OT @YX @Re @OU @Lh @Na @Km @Ur)) (b8 (b8 @Li @Jf @Lj @Jg @Us @OV @OW @Ut) (b8 @OX @Aev @Uu @Aew @Uv @Aex @Uw @Aey) (b8 @Kn @Ux @Lk @Rf @Uy @Aez @YY @Af0) (b8 @YZ @Af1 @Af2 @Rg @Nb @Rh @OY @Ri) (b8 @Uz @UA @UB @UC @UD @UE @Rj @Rk) (b8 @UF @UG @UH @UI @Nc @Io @Y1 @Y2) (b8 @Y3 @Nd @UK @UL @UM @UN @Su @Sv) (b8 @Y4 @Sw @Sx @Sy @Sz @SA @SB @Y7)) (b8 (b8 @Af4 @OZ @Rl @Af5 @Af6 @Fc @NN @Jh) (b8 @UO @UP @UQ @Af7 @Af8 @UR @Ko @Ln) (b8 @Za @Rm @Zb @US @Zc @O0 @O1 @UT) (b8 @Zd @Nf @Lp @Lq @UU @UW @UX @Af9) (b8 @Afa @Afb @Afc @UY @UZ @Kp @Lr @Ro) (b8 @Ze @Rp @Zf @U0 @U1 @U2 @Zg @O2) (b8 @O3 @U3 @Zh @Ng @Ls @Lt @U4 @Zi) (b8 @Afd @Afe @Aff @Afg @U5 @U6 @Kq @Lu)) (b8 (b8 @Rq @U7 @Rr @U8 @O4 @Un @Y5 @Y6) (b8 @Y8 @Y9 @ON @VQ @RJ @Rt @O5 @Rv) (b8 @O7 @Jj @U9 @Afi @Afj @Va @Vb @Zj) (b8 @Zk @Zl @Rx @Pa @QX @OH @Aei @Aej) (b8 @Aot @Uc @QY @Ud @QZ @Ue @M1 @Q0) (b8 @M3 @OI @OJ @M4 @M5 @Lg @Zm @Vd) (b8 @Ry @Pb @Ve @Afn @Vf @Rz @Pc @Pd) (b8 @CQ @Cs @Zn @Zo @Zp @Zq @RA @Pf)) (b8 @st0 @st1 @st2 @st3 @st4 @st5 @st6 @st7) (b8 @st8 @st9 @Awl @Awn @Awp @Awr @Awt @Awv) (b8 @Awx @gd0 @gd1 @gd2 @gd3 @gd4 @gd5 @gd6) (b8 @gd7 @gd8 @gd9 @Awm @Awo @Awq @Aws @Awu)) @Aww) @Awy):=aI (aI (b8 (b8 (b8 @Aep @Aeq @Ug @YH @Aer @Uh @OL @YI) (b8 @Q1 @YJ @Ui @OM @M7 @Kj @YK @Uj) (b8 @Q2 @YL @YM @Uk @Q4 @Aou @Aov @Q5) (b8 @Ul @OO @OP @M8 @Q6 @OQ @OR @YN) (b8 @YO @Aow @YP @Aes @Um @YQ @Aet @Uo) (b8 @YR @YS @Q7 @YT @Q8 @Up @YU @Q9) (b8 @Ra @YV @Rb @YW @Rd @M9 @Kl @Uq) (b8 @OT @YX @Re @OU @Lh @Na @Km @Ur)) (b8 (b8 @Li @Jf @Lj @Jg @Us @OV @OW @Ut) (b8 @OX @Aev @Uu @Aew @Uv @Aex @Uw @Aey) (b8 @Kn @Ux @Lk @Rf @Uy @Aez @YY @Af0) (b8 @YZ @Af1 @Af2 @Rg @Nb @Rh @OY @Ri) (b8 @Uz @UA @UB @UC @UD @UE @Rj @Rk) (b8 @UF @UG @UH @UI @Nc @Io @Y1 @Y2) (b8 @Y3 @Nd @UK @UL @UM @UN @Su @Sv) (b8 @Y4 @Sw @Sx @Sy @Sz @SA @SB @Y7)) (b8 (b8 @Af4 @OZ @Rl @Af5 @Af6 @Fc @NN @Jh) (b8 @UO @UP @UQ @Af7 @Af8 @UR @Ko @Ln) (b8 @Za @Rm @Zb @US @Zc @O0 @O1 @UT) (b8 @Zd @Nf @Lp @Lq @UU @UW @UX @Af9) (b8 @Afa @Afb @Afc @UY @UZ @Kp @Lr @Ro) (b8 @Ze @Rp @Zf @U0 @U1 @U2 @Zg @O2) (b8 @O3 @U3 @Zh @Ng @Ls @Lt @U4 @Zi) (b8 @Afd @Afe @Aff @Afg @U5 @U6 @Kq @Lu)) (b8 (b8 @Rq @U7 @Rr @U8 @O4 @Un @Y5 @Y6) (b8 @Y8 @Y9 @ON @VQ @RJ @Rt @O5 @Rv) (b8 @O7 @Jj @U9 @Afi @Afj @Va @Vb @Zj) (b8 @Zk @Zl @Rx @Pa @QX @OH @Aei @Aej) (b8 @Aot @Uc @QY @Ud @QZ @Ue @M1 @Q0) (b8 @M3 @OI @OJ @M4 @M5 @Lg @Zm @Vd) (b8 @Ry @Pb @Ve @Afn @Vf @Rz @Pc @Pd) (b8 @CQ @Cs @Zn @Zo @Zp @Zq @RA @Pf)) (b8 @st0 @st1 @st2 @st3 @st4 @st5 @st6 @st7) (b8 @st8 @st9 @Awl @Awn @Awp @Awr @Awt @Awv) (b8 @Awx @gd0 @gd1 @gd2 @gd3 @gd4 @gd5 @gd6) (b8 @gd7 @gd8 @gd9 @Awm @Awo @Awq @Aws @Awu)) @Aww) @Awy
theorem Dq:type_of% (aI (aI (aI (b8 (b8 @Nj @Vk @Afp @Vl @Vm @Vo @IP @Afq) (b8 @Vp @Vq @Afr @HP @Afs @Vr @Vs @Vt) (b8 @Ly @Aft @Vu @Vv @Zx @Afu @Vw @Nl) (b8 @VA @VB @Afx @RC @VC @Zz @VD @RD) (b8 @RE @VE @VF @Afy @Zt @Zu @Zv @Zw) (b8 @RH @RI @RF @RG @Nn @Pn @Po @Arh) (b8 @Awg @Awh @Awi @Rw @O8 @Pm @Ag0 @Ag1) (b8 @Ag2 @VH @VI @VJ @VK @VM @Jn @Nm)) (b8 (b8 @Afz @VN @VO @Ag3 @Ag4 @Vg @Vh @Vi) (b8 @Zr @Aoz @Ap0 @Vj @VG @VS @Pq @VP) (b8 @Nk @Afv @Vx @Vy @Afw @Vz @JQ @Bx) (b8 @RM @Xl @LC @NO @ZA @ZD @RL @Zy) (b8 @VT @Ag6 @Ag7 @Ag8 @Ag9 @ZB @VU @Kr) @VY @Ps @Pu)) @VX) @RN):=aI (aI (aI (b8 (b8 @Nj @Vk @Afp @Vl @Vm @Vo @IP @Afq) (b8 @Vp @Vq @Afr @HP @Afs @Vr @Vs @Vt) (b8 @Ly @Aft @Vu @Vv @Zx @Afu @Vw @Nl) (b8 @VA @VB @Afx @RC @VC @Zz @VD @RD) (b8 @RE @VE @VF @Afy @Zt @Zu @Zv @Zw) (b8 @RH @RI @RF @RG @Nn @Pn @Po @Arh) (b8 @Awg @Awh @Awi @Rw @O8 @Pm @Ag0 @Ag1) (b8 @Ag2 @VH @VI @VJ @VK @VM @Jn @Nm)) (b8 (b8 @Afz @VN @VO @Ag3 @Ag4 @Vg @Vh @Vi) (b8 @Zr @Aoz @Ap0 @Vj @VG @VS @Pq @VP) (b8 @Nk @Afv @Vx @Vy @Afw @Vz @JQ @Bx) (b8 @RM @Xl @LC @NO @ZA @ZD @RL @Zy) (b8 @VT @Ag6 @Ag7 @Ag8 @Ag9 @ZB @VU @Kr) @VY @Ps @Pu)) @VX) @RN
theorem Bk:type_of% (aI (b8 (b8 @lx45.{0} @lx54.{0} @lx39.{0} @List.getElem?_nil.{0} @lx53.{0} @lx63.{0} (@lx32.{0,0}) (@lx47.{0,0})) (b8 @lx64.{0} @lx91.{0} @lx66.{0} @lx73.{0} @List.drop_succ_cons.{0} @lx42.{0} @lx92.{0} @List.take_nil.{0}) (b8 @List.drop_nil.{0} (@lx17.{0,0}) (@lx34.{0,0}) (@Option.map_none.{0,0}) @Em @not_false_eq_true @D3 @Ay) (b8 @and_self @Kw @Ol @beq_self_eq_true.{0} @Bool.and_self @W0 @TO @decide_true) (b8 @decide_false @BO @Ax @BX @Bool.true_eq_false @true_or @or_true @GH) (b8 @false_or (@lx58.{0,0}) @List.replicate_zero.{0} @and_false @false_and @Nat.sub_zero @K3 @Int.cast_ofNat_Int) (b8 @K4 @Int.zero_le_ofNat @Nv @bne_self_eq_false.{0} @Oj @Oi @Ani @Adg) @MS) @W1):=aI (b8 (b8 @lx45.{0} @lx54.{0} @lx39.{0} @List.getElem?_nil.{0} @lx53.{0} @lx63.{0} (@lx32.{0,0}) (@lx47.{0,0})) (b8 @lx64.{0} @lx91.{0} @lx66.{0} @lx73.{0} @List.drop_succ_cons.{0} @lx42.{0} @lx92.{0} @List.take_nil.{0}) (b8 @List.drop_nil.{0} (@lx17.{0,0}) (@lx34.{0,0}) (@Option.map_none.{0,0}) @Em @not_false_eq_true @D3 @Ay) (b8 @and_self @Kw @Ol @beq_self_eq_true.{0} @Bool.and_self @W0 @TO @decide_true) (b8 @decide_false @BO @Ax @BX @Bool.true_eq_false @true_or @or_true @GH) (b8 @false_or (@lx58.{0,0}) @List.replicate_zero.{0} @and_false @false_and @Nat.sub_zero @K3 @Int.cast_ofNat_Int) (b8 @K4 @Int.zero_le_ofNat @Nv @bne_self_eq_false.{0} @Oj @Oi @Ani @Adg) @MS) @W1
end Go.SX
