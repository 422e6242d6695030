/-
  Lemmas towards ModesPriority (joined texts: SXS, SXW, SXZ, SYG).
  Conditions: none.
-/
import Derived.Test.YtdjpkhjaibdogaaGreatL01
import Derived.Test.YtdjpkhjaibdogaaGreatL14
set_option linter.unusedSimpArgs false
set_option linter.unusedVariables false
set_option maxRecDepth 100000
namespace Go.SX
open Go.RowKit (Below)
mutual
def Er (id ver:Nat) (els:List AV):AV→AV
 | .sl i v lo n=>if i=id∧v=ver then .vw false ((els.drop lo).take n) else .sl i v lo n
 | .ag cs=>.ag (D3 id ver els cs)
 | .sc v=>.sc v
 | .tu vs=>.tu vs
 | .pt a b c d=>.pt a b c d
 | .vw z es=>.vw z es
 | .vp es i o=>.vp es i o
 | .fn f c=>.fn f c
 | .un=>.un
 | .jk=>.jk
def D3 (id ver:Nat) (els:List AV):List AV→List AV
 | []=>[]
 | a::l=>Er id ver els a::D3 id ver els l
end
def Bes (id ver:Nat) (els:List AV) (b:Blk):Blk:=⟨b.live,b.ver,b.ty,b.esz,D3 id ver els b.els,b.tmp⟩
def IV (id ver:Nat) (els:List AV) (lo:Nat):Nat→List Blk→List Blk
 | _,[]=>[]
 | i,b::H=>(if i=id then dead else if i < lo then b else ⟨b.live,b.ver,b.ty,b.esz,D3 id ver els b.els,b.tmp⟩)::IV id ver els lo (i+1) H
def Pl (id ver:Nat) (els:List AV):AV→AV
 | .tu vs=>.tu (D3 id ver els vs)
 | a=>Er id ver els a
mutual
theorem RV (id:Nat) (B:Blk):∀ a,Frz id B a (Er id B.ver B.els a)
 | .sl i v lo n=>by
  simp only [Er]
  split
  ·rename_i h
   obtain ⟨rfl,rfl⟩:=h
   exact .sl lo n
  ·exact .same _
 | .ag cs=>by
  simp only [Er]
  exact .ag (Ij id B cs).1 (Ij id B cs).2
 | .sc v=>.same _
 | .tu vs=>.same _
 | .pt ..=>.same _
 | .vw ..=>.same _
 | .vp ..=>.same _
 | .fn ..=>.same _
 | .un=>.same _
 | .jk=>.same _
theorem Ij (id:Nat) (B:Blk):∀ l:List AV,l.length=(D3 id B.ver B.els l).length∧∀ (i:Nat) (a b:AV),l[i]?=some a→(D3 id B.ver B.els l)[i]?=some b→Frz id B a b
 | []=>⟨rfl,fun i a b h=>by simp at h⟩
 | x::l=>by
  obtain ⟨h1,h2⟩:=Ij id B l
  refine ⟨by simp [D3,h1],fun i a b ha hb=>?_⟩
  cases i with
  | zero=>
   simp only [D3,lx45,lx16] at ha hb
   subst ha; subst hb
   exact RV id B x
  | succ i=>
   simp only [D3,lx53] at ha hb
   exact h2 i a b ha hb
end
theorem NT (id:Nat) (B:Blk):∀ T:List AV,Aas id B T (D3 id B.ver B.els T)
 | []=>trivial
 | a::T=>⟨RV id B a,NT id B T⟩
theorem Ab4 (id:Nat) (B:Blk) (e:AV):e.cells.length=(Er id B.ver B.els e).cells.length∧∀ (j:Nat) (a a':AV),e.cells[j]?=some a→(Er id B.ver B.els e).cells[j]?=some a'→Frz id B a a':=by
 have one:∀ x y:AV,Frz id B x y→∀ (j:Nat) (a a':AV),[x][j]?=some a→[y][j]?=some a'→Frz id B a a':=by
  intro x y h j a a' h1 h2
  cases j with
  | zero=>simp at h1 h2; subst h1; subst h2; exact h
  | succ j=>simp at h1
 cases e with
 | ag cs=>
  simp only [Er,AV.cells]
  exact ⟨(Ij id B cs).1,(Ij id B cs).2⟩
 | sl i v lo n=>
  have:=RV id B (.sl i v lo n)
  simp only [Er] at this ⊢
  split
  ·rename_i h
   rw [if_pos h] at this
   exact ⟨rfl,one _ _ this⟩
  ·exact ⟨rfl,one _ _ (.same _)⟩
 | _=>exact ⟨rfl,one _ _ (.same _)⟩
theorem NU (id:Nat) (B:Blk) (lo:Nat):∀ (H:List Blk) (i k:Nat) (A':Blk),(IV id B.ver B.els lo i H)[k]?=some A'→A'.live=true→i+k≠id∧∃ A,H[k]?=some A∧FrzB id B A A'
 | [],i,k,A',h,_=>by simp [IV] at h
 | b::H,i,0,A',h,hl=>by
  simp only [IV,lx45,lx16] at h
  split at h
  ·subst h; cases hl
  ·rename_i hne
   split at h
   ·subst h
    exact ⟨by simpa using hne,b,rfl,FrzB.refl hl⟩
   subst h
   refine ⟨by simpa using hne,b,rfl,hl,rfl,rfl,rfl,(Ij id B b.els).1,fun j e e' he he'=>?_⟩
   have hj:=frz_at id B b.els j e e' he he'
   subst hj
   exact Ab4 id B e
 | b::H,i,k+1,A',h,hl=>by
  simp only [IV,lx53] at h
  have:=NU id B lo H (i+1) k A' h hl
  refine ⟨by have:=this.1; omega,?_⟩
  simpa using this.2
where
 frz_at (id:Nat) (B:Blk):∀ (l:List AV) (j:Nat) (e e':AV),l[j]?=some e→(D3 id B.ver B.els l)[j]?=some e'→e'=Er id B.ver B.els e
  | [],j,e,e',h,_=>by simp at h
  | x::l,0,e,e',h,h'=>by simp [D3] at h h'; rw [←h,←h']
  | x::l,j+1,e,e',h,h'=>by
   simp only [D3,lx53] at h h'
   exact frz_at id B l j e e' h h'
theorem ME {l:List AV} (h:norefs l=true):∀ e ∈ l,∀ a ∈ e.cells,a.noref=true:=by
 induction l with
 | nil=>intro e he; simp at he
 | cons x l ih=>
  simp only [norefs,AH] at h
  intro e he a ha
  rcases lx59.1 he with rfl | he
  ·cases e with
   | ag cs=>
    have hn:norefs cs=true:=by simpa [AV.noref] using h.1
    simp only [AV.cells] at ha
    clear h he ih
    induction cs with
    | nil=>simp at ha
    | cons y cs ihc=>
     simp only [norefs,AH] at hn
     rcases lx59.1 ha with rfl | ha
     ·exact hn.1
     ·exact ihc ha hn.2
   | _=>
    simp only [AV.cells,lx70] at ha
    rw [ha]; exact h.1
  ·exact ih h.2 e he a ha
section
variable {P:Program} {E:Env} {n0:Nat} {rs:List ResultVar} {R:AV→St→Prop}
theorem JZ {k:List Item} {T:List AV} {H:List Blk} {c:Nat} (lo id:Nat) (B:Blk) (hB:H[id]?=some B) (hl:B.live=true) (hid:n0≤id) (hn:norefs B.els=true)
  (h:Go P E n0 rs R k ⟨D3 id B.ver B.els T,IV id B.ver B.els lo 0 H,c⟩):Go P E n0 rs R k ⟨T,H,c⟩:=
 Ahp id B hB hl hid (ME hn) (NT id B T) (fun k A' h1 h2=>by
  have:=NU id B lo H 0 k A' h1 h2
  rwa [CL] at this) (Av _) h
end
theorem HSpec.wk {P:Program} {f:FuncId} {args:List AV} {H H' H'':List Blk} {cnt cnt' cnt'':Nat} {r r':AV} (h:HSpec P f args H cnt r H' cnt') (h0:WkV H' r r') (h1:WkH H' H' H'') (h2:cnt'≤cnt''):
  HSpec P f args H cnt r' H'' cnt'':=by
 refine ⟨h.1,fun w X loc cargs hr hv=>(h.2 w X loc cargs hr hv).mono ?_⟩
 rintro e w' ⟨X',loc',c,rfl,g1,g2,g3⟩
 obtain ⟨q1,q2⟩:=Amh (hc:=⟨loc',H',cnt'⟩) (H':=H'') (cnt':=cnt'') g1 h1 h2
 exact ⟨X',loc',c,rfl,q1,(NS (hc:=⟨loc',H',cnt'⟩) h0 g2).mono q2 g1,g3.trans q2⟩
theorem HSpec.frz {P:Program} {f:FuncId} {args:List AV} {H H':List Blk} {cnt cnt':Nat} {r:AV} (h:HSpec P f args H cnt r H' cnt') (lo id:Nat) (B:Blk) (hB:H'[id]?=some B) (hl:B.live=true) (hid:H.length≤id) (hn:norefs B.els=true):
  HSpec P f args H cnt (Pl id B.ver B.els r) (IV id B.ver B.els lo 0 H') cnt':=by
 refine ⟨h.1,fun w X loc cargs hr hv=>(h.2 w X loc cargs hr hv).mono ?_⟩
 rintro e w' ⟨X',loc',c,rfl,g1,g2,g3⟩
 have key:∀ (T:List AV) (vs:List Value),VL w' X' (some ⟨loc',H',cnt'⟩) T vs→∃ X2 loc2,HR w' X2 ⟨loc2,IV id B.ver B.els lo 0 H',cnt'⟩∧VL w' X2 (some ⟨loc2,IV id B.ver B.els lo 0 H',cnt'⟩) (D3 id B.ver B.els T) vs∧Evo w X ⟨loc,H,cnt⟩ w' X2 ⟨loc2,IV id B.ver B.els lo 0 H',cnt'⟩:=by
  intro T vs hT
  obtain ⟨X2,loc2,q1,q2⟩:=NK (n0:=H.length) (T:=T) (T':=D3 id B.ver B.els T) (H:=H') (H':=IV id B.ver B.els lo 0 H') (c:=cnt') (c':=cnt') (loc:=loc') (a:={ tmps:=vs.toArray,defers:=[] }) id B ⟨g1,by simpa [St.hc] using hT,rfl⟩ hB hl hid (ME hn) (NT id B T)
   (fun k A' h1 h2=>by
    have:=NU id B lo H' 0 k A' h1 h2
    rwa [CL] at this) (Av _)
  exact ⟨X2,loc2,q1.hr,by simpa [St.hc] using q1.tm,q2 w X ⟨loc,H,cnt⟩ rfl g3⟩
 by_cases hr:∃ vs,r=.tu vs
 ·obtain ⟨vs,rfl⟩:=hr
  cases g2 with
  | tu hl' h1'=>
   rename_i us
   obtain ⟨X2,loc2,q1,q2,q3⟩:=key vs us ⟨hl',h1'⟩
   exact ⟨X2,loc2,_,rfl,q1,.tu q2.1 q2.2,q3⟩
 ·obtain ⟨X2,loc2,q1,q2,q3⟩:=key [r] [c] ⟨rfl,fun i a v h1 h2=>by
   cases i with
   | zero=>simp at h1 h2; subst h1; subst h2; exact g2
   | succ i=>simp at h1⟩
  refine ⟨X2,loc2,c,rfl,q1,?_,q3⟩
  have:=q2.2 0 (Er id B.ver B.els r) c rfl rfl
  have e:Pl id B.ver B.els r=Er id B.ver B.els r:=by
   cases r with
   | tu vs=>exact absurd ⟨vs,rfl⟩ hr
   | _=>rfl
  rw [e]; exact this
section
variable (id ver:Nat) (els:List AV)
theorem MF (i v lo n:Nat):Er id ver els (.sl i v lo n)=if i=id∧v=ver then .vw false ((els.drop lo).take n) else .sl i v lo n:=rfl
theorem MG (cs:List AV):Er id ver els (.ag cs)=.ag (D3 id ver els cs):=rfl
theorem MH (v:Value):Er id ver els (.sc v)=.sc v:=rfl
theorem MI (v:List AV):Er id ver els (.tu v)=.tu v:=rfl
theorem MJ (a b c d:Nat):Er id ver els (.pt a b c d)=.pt a b c d:=rfl
theorem MK (z:Bool) (es:List AV):Er id ver els (.vw z es)=.vw z es:=rfl
theorem ML (es:List AV) (i o:Nat):Er id ver els (.vp es i o)=.vp es i o:=rfl
theorem MM (f:Nat) (c:List AV):Er id ver els (.fn f c)=.fn f c:=rfl
theorem MN:Er id ver els .un=.un:=rfl
theorem MO:Er id ver els .jk=.jk:=rfl
theorem J1:D3 id ver els []=[]:=rfl
theorem Ik (a:AV) (l:List AV):D3 id ver els (a::l)=Er id ver els a::D3 id ver els l:=rfl
theorem J2 (lo i:Nat):IV id ver els lo i []=[]:=rfl
theorem Il (lo i:Nat) (b:Blk) (H:List Blk):IV id ver els lo i (b::H)=(if i=id then dead else if i < lo then b else Bes id ver els b)::IV id ver els lo (i+1) H:=rfl
theorem MP (l:Bool) (v t e:Nat) (es:List AV) (p:Bool):Bes id ver els ⟨l,v,t,e,es,p⟩=⟨l,v,t,e,D3 id ver els es,p⟩:=rfl
theorem MQ (v:List AV):Pl id ver els (.tu v)=.tu (D3 id ver els v):=rfl
theorem MR (i v lo n:Nat):Pl id ver els (.sl i v lo n)=if i=id∧v=ver then .vw false ((els.drop lo).take n) else .sl i v lo n:=rfl
end
mutual
def swA (a b:Nat):AV→AV
 | .sl i v lo n=>.sl (Lb a b i) v lo n
 | .pt i v k o=>.pt (Lb a b i) v k o
 | .ag cs=>.ag (Vx a b cs)
 | .sc v=>.sc v
 | .tu _=>.jk
 | .vw z es=>.vw z es
 | .vp es i o=>.vp es i o
 | .fn f c=>if norefs c=true then .fn f c else .jk
 | .un=>.un
 | .jk=>.jk
def Vx (a b:Nat):List AV→List AV
 | []=>[]
 | x::l=>swA a b x::Vx a b l
end
def swB (a b:Nat) (x:Blk):Blk:=⟨x.live,x.ver,x.ty,x.esz,Vx a b x.els,x.tmp⟩
def swM (a b:Nat):List Blk→List Blk
 | []=>[]
 | x::H=>swB a b x::swM a b H
def swH (a b:Nat) (H:List Blk):List Blk:=swM a b ((H.set a (H.getD b dead)).set b (H.getD a dead))
def O2:List Blk→Bool
 | []=>true
 | b::H=>Hs b.els && O2 H
mutual
theorem Aey (a b:Nat):∀ x,Ren a b x (swA a b x)
 | .sl i v lo n=>.sl i v lo n
 | .pt i v k o=>.pt i v k o
 | .ag cs=>.ag (Vy a b cs).1 (Vy a b cs).2
 | .sc v=>.same rfl
 | .tu _=>.jk
 | .vw z es=>.same rfl
 | .vp es i o=>.same rfl
 | .fn f c=>by
  simp only [swA]
  split
  ·rename_i h
   exact .same (by simpa [AV.noref] using h)
  ·exact .jk
 | .un=>.same rfl
 | .jk=>.same rfl
theorem Vy (a b:Nat):∀ l:List AV,l.length=(Vx a b l).length∧∀ (i:Nat) (c d:AV),l[i]?=some c→(Vx a b l)[i]?=some d→Ren a b c d
 | []=>⟨rfl,fun i c d h=>by simp at h⟩
 | x::l=>by
  obtain ⟨h1,h2⟩:=Vy a b l
  refine ⟨by simp [Vx,h1],fun i c d hc hd=>?_⟩
  cases i with
  | zero=>
   simp only [Vx,lx45,lx16] at hc hd
   subst hc; subst hd
   exact Aey a b x
  | succ i=>
   simp only [Vx,lx53] at hc hd
   exact h2 i c d hc hd
end
theorem RW (a b:Nat):∀ l:List AV,Ahq a b l (Vx a b l)
 | []=>trivial
 | x::l=>⟨Aey a b x,RW a b l⟩
theorem Aez (a b:Nat):∀ (H:List Blk) (j:Nat),(swM a b H)[j]?=H[j]?.map (swB a b)
 | [],j=>rfl
 | x::H,0=>rfl
 | x::H,j+1=>by simp only [swM,lx53]; exact Aez a b H j
theorem Ur:∀ {H:List Blk},O2 H=true→∀ (j:Nat) (A:Blk),H[j]?=some A→Hs A.els=true
 | [],_,j,A,h=>by simp at h
 | x::H,hn,0,A,h=>by
  simp only [O2,AH] at hn
  simp only [lx45,lx16] at h
  subst h; exact hn.1
 | x::H,hn,j+1,A,h=>by
  simp only [O2,AH] at hn
  exact Ur hn.2 j A (by simpa using h)
section
variable {P:Program} {E:Env} {n0:Nat} {rs:List ResultVar} {R:AV→St→Prop}
theorem HU {k:List Item} {T:List AV} {H:List Blk} {c:Nat} (a b:Nat) (ha:n0≤a) (hb:n0≤b) (hla:a < H.length) (hlb:b < H.length) (hj:O2 (swH a b H)=true)
  (h:Go P E n0 rs R k ⟨Vx a b T,swH a b H,c⟩):Go P E n0 rs R k ⟨T,H,c⟩:=by
 refine Are a b ha hb (RW a b T) (fun j A' h1 h2=>?_) h
 have hn:=Ur hj j A' h1
 have key:∀ A:Blk,A.live=true→A'=swB a b A→Ard a b A A':=by
  rintro A hl rfl
  exact ⟨hl,rfl,rfl,rfl,RW a b A.els,MC hn⟩
 unfold swH at h1
 rw [Aez] at h1
 obtain ⟨A,hA,rfl⟩:=lx24.1 h1
 refine ⟨A,?_,key A h2 rfl⟩
 rw [lx21,lx21] at hA
 unfold Lb
 by_cases hjb:b=j
 ·subst hjb
  rw [if_pos rfl,lx1,if_pos hlb] at hA
  by_cases hab:b=a
  ·subst hab
   rw [if_pos rfl]
   exact Aus
  ·rw [if_neg hab,if_pos rfl]
   exact Aus
 ·rw [if_neg hjb] at hA
  by_cases hja:a=j
  ·subst hja
   rw [if_pos rfl,if_pos hla] at hA
   rw [if_pos rfl]
   rw [lx81,lx50 hlb] at hA
   rw [lx50 hlb]
   simpa using hA
  ·rw [if_neg hja] at hA
   rw [if_neg (fun h=>hja h.symm),if_neg (fun h=>hjb h.symm)]
   exact hA
end
section
variable (a b:Nat)
theorem Py (i:Nat):Lb a b i=if i=a then b else if i=b then a else i:=rfl
theorem Vz (i v lo n:Nat):swA a b (.sl i v lo n)=.sl (Lb a b i) v lo n:=rfl
theorem VA (i v k o:Nat):swA a b (.pt i v k o)=.pt (Lb a b i) v k o:=rfl
theorem VB (cs:List AV):swA a b (.ag cs)=.ag (Vx a b cs):=rfl
theorem VC (v:Value):swA a b (.sc v)=.sc v:=rfl
theorem VD (v:List AV):swA a b (.tu v)=.jk:=rfl
theorem VE (z:Bool) (es:List AV):swA a b (.vw z es)=.vw z es:=rfl
theorem VF (es:List AV) (i o:Nat):swA a b (.vp es i o)=.vp es i o:=rfl
theorem VG (f:Nat):swA a b (.fn f [])=.fn f []:=rfl
theorem VH:swA a b .un=.un:=rfl
theorem VI:swA a b .jk=.jk:=rfl
theorem Pz:Vx a b []=[]:=rfl
theorem MS (x:AV) (l:List AV):Vx a b (x::l)=swA a b x::Vx a b l:=rfl
theorem VJ {α:Type} {f:α→AV} (h:∀ x,swA a b (f x)=f x):∀ l:List α,Vx a b (l.map f)=l.map f
 | []=>rfl
 | x::l=>by rw [lx31,Vx,h,VJ h l]
theorem VK (l:Bool) (v t e:Nat) (es:List AV) (p:Bool):swB a b ⟨l,v,t,e,es,p⟩=⟨l,v,t,e,Vx a b es,p⟩:=rfl
theorem PS:swM a b []=[]:=rfl
theorem MU (x:Blk) (H:List Blk):swM a b (x::H)=swB a b x::swM a b H:=rfl
theorem P0 (H:List Blk):swH a b H=swM a b ((H.set a (H.getD b dead)).set b (H.getD a dead)):=rfl
theorem Us:O2 []=true:=rfl
theorem RX (x:Blk) (H:List Blk):O2 (x::H)=(Hs x.els && O2 H):=rfl
theorem MV {α:Type} {f:α→AV} (h:∀ x,f x≠.jk):∀ l:List α,Hs (l.map f)=true
 | []=>rfl
 | x::l=>by
  have:=h x
  rw [lx31]
  cases hx:f x <;> first | exact absurd hx this | exact MV h l
end
end Go.SX
namespace Go.SX
section
variable {P:Program} {E:Env} {n0:Nat} {rs:List ResultVar} {R:AV→St→Prop} {k:List Item}
end
section
variable {α:Type}
theorem st0 (a0 v:α) (l:List α):(a0::l).set 0 v=v::l:=rfl
theorem gd0 (a0 v:α) (l:List α):(a0::l).getD 0 v=a0:=rfl
theorem st1 (a0 a1 v:α) (l:List α):(a0::a1::l).set 1 v=a0::v::l:=rfl
theorem gd1 (a0 a1 v:α) (l:List α):(a0::a1::l).getD 1 v=a1:=rfl
theorem st2 (a0 a1 a2 v:α) (l:List α):(a0::a1::a2::l).set 2 v=a0::a1::v::l:=rfl
theorem gd2 (a0 a1 a2 v:α) (l:List α):(a0::a1::a2::l).getD 2 v=a2:=rfl
theorem st3 (a0 a1 a2 a3 v:α) (l:List α):(a0::a1::a2::a3::l).set 3 v=a0::a1::a2::v::l:=rfl
theorem gd3 (a0 a1 a2 a3 v:α) (l:List α):(a0::a1::a2::a3::l).getD 3 v=a3:=rfl
theorem st4 (a0 a1 a2 a3 a4 v:α) (l:List α):(a0::a1::a2::a3::a4::l).set 4 v=a0::a1::a2::a3::v::l:=rfl
theorem gd4 (a0 a1 a2 a3 a4 v:α) (l:List α):(a0::a1::a2::a3::a4::l).getD 4 v=a4:=rfl
theorem st5 (a0 a1 a2 a3 a4 a5 v:α) (l:List α):(a0::a1::a2::a3::a4::a5::l).set 5 v=a0::a1::a2::a3::a4::v::l:=rfl
theorem gd5 (a0 a1 a2 a3 a4 a5 v:α) (l:List α):(a0::a1::a2::a3::a4::a5::l).getD 5 v=a5:=rfl
theorem st6 (a0 a1 a2 a3 a4 a5 a6 v:α) (l:List α):(a0::a1::a2::a3::a4::a5::a6::l).set 6 v=a0::a1::a2::a3::a4::a5::v::l:=rfl
theorem gd6 (a0 a1 a2 a3 a4 a5 a6 v:α) (l:List α):(a0::a1::a2::a3::a4::a5::a6::l).getD 6 v=a6:=rfl
theorem st7 (a0 a1 a2 a3 a4 a5 a6 a7 v:α) (l:List α):(a0::a1::a2::a3::a4::a5::a6::a7::l).set 7 v=a0::a1::a2::a3::a4::a5::a6::v::l:=rfl
theorem gd7 (a0 a1 a2 a3 a4 a5 a6 a7 v:α) (l:List α):(a0::a1::a2::a3::a4::a5::a6::a7::l).getD 7 v=a7:=rfl
theorem st8 (a0 a1 a2 a3 a4 a5 a6 a7 a8 v:α) (l:List α):(a0::a1::a2::a3::a4::a5::a6::a7::a8::l).set 8 v=a0::a1::a2::a3::a4::a5::a6::a7::v::l:=rfl
theorem gd8 (a0 a1 a2 a3 a4 a5 a6 a7 a8 v:α) (l:List α):(a0::a1::a2::a3::a4::a5::a6::a7::a8::l).getD 8 v=a8:=rfl
theorem st9 (a0 a1 a2 a3 a4 a5 a6 a7 a8 a9 v:α) (l:List α):(a0::a1::a2::a3::a4::a5::a6::a7::a8::a9::l).set 9 v=a0::a1::a2::a3::a4::a5::a6::a7::a8::v::l:=rfl
theorem gd9 (a0 a1 a2 a3 a4 a5 a6 a7 a8 a9 v:α) (l:List α):(a0::a1::a2::a3::a4::a5::a6::a7::a8::a9::l).getD 9 v=a9:=rfl
theorem Beu (a0 a1 a2 a3 a4 a5 a6 a7 a8 a9 HO v:α) (l:List α):(a0::a1::a2::a3::a4::a5::a6::a7::a8::a9::HO::l).set 10 v=a0::a1::a2::a3::a4::a5::a6::a7::a8::a9::v::l:=rfl
theorem Azf (a0 a1 a2 a3 a4 a5 a6 a7 a8 a9 HO v:α) (l:List α):(a0::a1::a2::a3::a4::a5::a6::a7::a8::a9::HO::l).getD 10 v=HO:=rfl
theorem Bev (a0 a1 a2 a3 a4 a5 a6 a7 a8 a9 HO Jk v:α) (l:List α):(a0::a1::a2::a3::a4::a5::a6::a7::a8::a9::HO::Jk::l).set 11 v=a0::a1::a2::a3::a4::a5::a6::a7::a8::a9::HO::v::l:=rfl
theorem Azg (a0 a1 a2 a3 a4 a5 a6 a7 a8 a9 HO Jk v:α) (l:List α):(a0::a1::a2::a3::a4::a5::a6::a7::a8::a9::HO::Jk::l).getD 11 v=Jk:=rfl
theorem Bew (a0 a1 a2 a3 a4 a5 a6 a7 a8 a9 HO Jk Hp v:α) (l:List α):(a0::a1::a2::a3::a4::a5::a6::a7::a8::a9::HO::Jk::Hp::l).set 12 v=a0::a1::a2::a3::a4::a5::a6::a7::a8::a9::HO::Jk::v::l:=rfl
theorem Azh (a0 a1 a2 a3 a4 a5 a6 a7 a8 a9 HO Jk Hp v:α) (l:List α):(a0::a1::a2::a3::a4::a5::a6::a7::a8::a9::HO::Jk::Hp::l).getD 12 v=Hp:=rfl
theorem Bex (a0 a1 a2 a3 a4 a5 a6 a7 a8 a9 HO Jk Hp Jl v:α) (l:List α):(a0::a1::a2::a3::a4::a5::a6::a7::a8::a9::HO::Jk::Hp::Jl::l).set 13 v=a0::a1::a2::a3::a4::a5::a6::a7::a8::a9::HO::Jk::Hp::v::l:=rfl
theorem Azi (a0 a1 a2 a3 a4 a5 a6 a7 a8 a9 HO Jk Hp Jl v:α) (l:List α):(a0::a1::a2::a3::a4::a5::a6::a7::a8::a9::HO::Jk::Hp::Jl::l).getD 13 v=Jl:=rfl
theorem Bey (a0 a1 a2 a3 a4 a5 a6 a7 a8 a9 HO Jk Hp Jl Pf v:α) (l:List α):(a0::a1::a2::a3::a4::a5::a6::a7::a8::a9::HO::Jk::Hp::Jl::Pf::l).set 14 v=a0::a1::a2::a3::a4::a5::a6::a7::a8::a9::HO::Jk::Hp::Jl::v::l:=rfl
theorem Azj (a0 a1 a2 a3 a4 a5 a6 a7 a8 a9 HO Jk Hp Jl Pf v:α) (l:List α):(a0::a1::a2::a3::a4::a5::a6::a7::a8::a9::HO::Jk::Hp::Jl::Pf::l).getD 14 v=Pf:=rfl
theorem Bez (a0 a1 a2 a3 a4 a5 a6 a7 a8 a9 HO Jk Hp Jl Pf a15 v:α) (l:List α):(a0::a1::a2::a3::a4::a5::a6::a7::a8::a9::HO::Jk::Hp::Jl::Pf::a15::l).set 15 v=a0::a1::a2::a3::a4::a5::a6::a7::a8::a9::HO::Jk::Hp::Jl::Pf::v::l:=rfl
theorem Azk (a0 a1 a2 a3 a4 a5 a6 a7 a8 a9 HO Jk Hp Jl Pf a15 v:α) (l:List α):(a0::a1::a2::a3::a4::a5::a6::a7::a8::a9::HO::Jk::Hp::Jl::Pf::a15::l).getD 15 v=a15:=rfl
theorem Bf0 (a0 a1 a2 a3 a4 a5 a6 a7 a8 a9 HO Jk Hp Jl Pf a15 v:α) (l:List α) (n:Nat):(a0::a1::a2::a3::a4::a5::a6::a7::a8::a9::HO::Jk::Hp::Jl::Pf::a15::l).set (n+16) v=a0::a1::a2::a3::a4::a5::a6::a7::a8::a9::HO::Jk::Hp::Jl::Pf::a15::l.set n v:=rfl
theorem Azl (a0 a1 a2 a3 a4 a5 a6 a7 a8 a9 HO Jk Hp Jl Pf a15 v:α) (l:List α) (n:Nat):(a0::a1::a2::a3::a4::a5::a6::a7::a8::a9::HO::Jk::Hp::Jl::Pf::a15::l).getD (n+16) v=l.getD n v:=rfl
end
theorem AT:type_of% (aI (aI (aI (b8 (b8 (b8 @Ako @Akp @Xd @Ad9 @Akq @Xe @Q6 @Ada) (b8 @TF @Adb @Xf @Q7 @OM @K2 @Adc @Xg) (b8 @TG @Ade @Adf @Xh @TI @Ava @Avb @TJ) (b8 @Xi @Q9 @Ra @ON @TK @Rb @Re @Adg) (b8 @Adh @Avc @Adi @Akr @Xj @Adj @Aks @Xl) (b8 @Adk @Adl @TL @Adm @TM @Xm @Adn @TN) (b8 @TO @Ado @TP @Adp @TQ @OO @K4 @Xn) (b8 @Rg @Adq @TR @Rh @Mi @OP @K5 @Xo)) (b8 (b8 @Ri @Mj @JM @Xp @Rj @Ml @JN @Xq) (b8 @Rk @Rl @Xr @Aku @Xs @Akv @Akw @Xt) (b8 @Akx @K6 @Xu @Mm @TS @Xv @Aky @Adr) (b8 @Akz @Ads @Al0 @Al1 @TU @OQ @TV @Rm) (b8 @TW @Xw @Xx @Xy @Xz @XA @XB @TX) (b8 @TY @XC @XD @XE @XF @JO @IL @Adu) (b8 @Adv @Adw @OR @XG @XH @XI @XJ @Vl) (b8 @Vm @Adx @Vo @Vp @Vq @Vr @Vs @Vt)) (b8 (b8 @Ae0 @Al5 @Rp @TZ @Al6 @Al7 @ER @Pv) (b8 @JP @XK @XL @XM @Al8 @Al9 @XN @K7) (b8 @Mn @Ae3 @T1 @Ae4 @XO @Ae5 @Rq @Rr) (b8 @XP @Ae6 @OS @Mp @Mq @XQ @XR @XS) (b8 @Ala @Alb @Alc @Ald @XT @XU @K8 @Mr) (b8 @T2 @Ae7 @T3 @Ae8 @XV @XW @XX @XY) (b8 @Ae9 @Rt @Rv @XZ @Aea @OT @Mt @Mu) (b8 @X3 @Aeb @Ale @Alf @Alg @Alh @X4 @X5)) (b8 (b8 @K9 @Mv @T4 @X6 @T5 @X7 @Rw @Xk) (b8 @Ady @Adz @Ae1 @Ae2 @Q8 @YS @Un @T6) (b8 @Rx @T7 @Rz @JR @X8 @Alj @Alk @X9) (b8 @Ya @Aec @Aed @Aee @T9 @RB @Aef @Ua) (b8 @Ub @RC @TB @Q2 @Akj @Akk @Av9 @W9) (b8 @TC @Xa @TD @Xb @OH @TE @OI @Q3) (b8 @Q4 @OJ @OK @Mh @Aeg @Yb @Uc @RD) (b8 @Yc @Alo @Yd @Ud @RE @RF @Ha @Gb)) (b8 @Aeh @Aei @Aej @Aek @Ue @RG @Ye @Yf) (b8 @st0 @st1 @st2 @st3 @st4 @st5 @st6 @st7) (b8 @st8 @st9 @Beu @Bev @Bew @Bex @Bey @Bez) (b8 @Bf0 @gd0 @gd1 @gd2 @gd3 @gd4 @gd5 @gd6)) (b8 @gd7 @gd8 @gd9 @Azf @Azg @Azh @Azi @Azj)) @Azk) @Azl):=aI (aI (aI (b8 (b8 (b8 @Ako @Akp @Xd @Ad9 @Akq @Xe @Q6 @Ada) (b8 @TF @Adb @Xf @Q7 @OM @K2 @Adc @Xg) (b8 @TG @Ade @Adf @Xh @TI @Ava @Avb @TJ) (b8 @Xi @Q9 @Ra @ON @TK @Rb @Re @Adg) (b8 @Adh @Avc @Adi @Akr @Xj @Adj @Aks @Xl) (b8 @Adk @Adl @TL @Adm @TM @Xm @Adn @TN) (b8 @TO @Ado @TP @Adp @TQ @OO @K4 @Xn) (b8 @Rg @Adq @TR @Rh @Mi @OP @K5 @Xo)) (b8 (b8 @Ri @Mj @JM @Xp @Rj @Ml @JN @Xq) (b8 @Rk @Rl @Xr @Aku @Xs @Akv @Akw @Xt) (b8 @Akx @K6 @Xu @Mm @TS @Xv @Aky @Adr) (b8 @Akz @Ads @Al0 @Al1 @TU @OQ @TV @Rm) (b8 @TW @Xw @Xx @Xy @Xz @XA @XB @TX) (b8 @TY @XC @XD @XE @XF @JO @IL @Adu) (b8 @Adv @Adw @OR @XG @XH @XI @XJ @Vl) (b8 @Vm @Adx @Vo @Vp @Vq @Vr @Vs @Vt)) (b8 (b8 @Ae0 @Al5 @Rp @TZ @Al6 @Al7 @ER @Pv) (b8 @JP @XK @XL @XM @Al8 @Al9 @XN @K7) (b8 @Mn @Ae3 @T1 @Ae4 @XO @Ae5 @Rq @Rr) (b8 @XP @Ae6 @OS @Mp @Mq @XQ @XR @XS) (b8 @Ala @Alb @Alc @Ald @XT @XU @K8 @Mr) (b8 @T2 @Ae7 @T3 @Ae8 @XV @XW @XX @XY) (b8 @Ae9 @Rt @Rv @XZ @Aea @OT @Mt @Mu) (b8 @X3 @Aeb @Ale @Alf @Alg @Alh @X4 @X5)) (b8 (b8 @K9 @Mv @T4 @X6 @T5 @X7 @Rw @Xk) (b8 @Ady @Adz @Ae1 @Ae2 @Q8 @YS @Un @T6) (b8 @Rx @T7 @Rz @JR @X8 @Alj @Alk @X9) (b8 @Ya @Aec @Aed @Aee @T9 @RB @Aef @Ua) (b8 @Ub @RC @TB @Q2 @Akj @Akk @Av9 @W9) (b8 @TC @Xa @TD @Xb @OH @TE @OI @Q3) (b8 @Q4 @OJ @OK @Mh @Aeg @Yb @Uc @RD) (b8 @Yc @Alo @Yd @Ud @RE @RF @Ha @Gb)) (b8 @Aeh @Aei @Aej @Aek @Ue @RG @Ye @Yf) (b8 @st0 @st1 @st2 @st3 @st4 @st5 @st6 @st7) (b8 @st8 @st9 @Beu @Bev @Bew @Bex @Bey @Bez) (b8 @Bf0 @gd0 @gd1 @gd2 @gd3 @gd4 @gd5 @gd6)) (b8 @gd7 @gd8 @gd9 @Azf @Azg @Azh @Azi @Azj)) @Azk) @Azl
theorem B9:type_of% (aI (aI (aI (aI (b8 (b8 @OW @Yk @Alq @Yl @Ym @Yn @Jn @Alr) (b8 @Yo @Yp @Als @Ig @Alu @Yq @Yr @Ys) (b8 @My @Alv @Yt @Yu @Aer @Alw @Yv @OY) (b8 @Yz @YE @Alz @Ug @YF @Aet @YG @Uh) (b8 @Ui @YH @YI @Am0 @Aen @Aeo @Aep @Aeq) (b8 @Ul @Um @Uj @Uk @O0 @RN @RO @Ben) (b8 @Beo @Bep @Beq @Ber @T8 @Ls @RM @Am4) (b8 @Am5 @Am6 @YK @YL @YM @YN @YO @JU)) (b8 (b8 @OZ @Am2 @YP @YQ @Am7 @Am8 @Yg @Yh) (b8 @Yi @Ael @Avf @Avg @Yj @YJ @YT @RQ) (b8 @YR @OX @Alx @Yw @Yx @Aly @Yy @Pw) (b8 @Cj @Up @Amg @MD @Px @Aeu @Aex @Uo) (b8 @Aes @YV @Amb @Amc @Amd @Ame @Aev @YW) @La @YZ @RT)) @RU) @YY) @Uq):=aI (aI (aI (aI (b8 (b8 @OW @Yk @Alq @Yl @Ym @Yn @Jn @Alr) (b8 @Yo @Yp @Als @Ig @Alu @Yq @Yr @Ys) (b8 @My @Alv @Yt @Yu @Aer @Alw @Yv @OY) (b8 @Yz @YE @Alz @Ug @YF @Aet @YG @Uh) (b8 @Ui @YH @YI @Am0 @Aen @Aeo @Aep @Aeq) (b8 @Ul @Um @Uj @Uk @O0 @RN @RO @Ben) (b8 @Beo @Bep @Beq @Ber @T8 @Ls @RM @Am4) (b8 @Am5 @Am6 @YK @YL @YM @YN @YO @JU)) (b8 (b8 @OZ @Am2 @YP @YQ @Am7 @Am8 @Yg @Yh) (b8 @Yi @Ael @Avf @Avg @Yj @YJ @YT @RQ) (b8 @YR @OX @Alx @Yw @Yx @Aly @Yy @Pw) (b8 @Cj @Up @Amg @MD @Px @Aeu @Aex @Uo) (b8 @Aes @YV @Amb @Amc @Amd @Ame @Aev @YW) @La @YZ @RT)) @RU) @YY) @Uq
theorem AX:type_of% (aI (aI (aI (b8 (b8 @lx45.{0} @lx53.{0} @lx39.{0} @List.getElem?_nil.{0} @lx52.{0} @lx63.{0} (@lx31.{0,0}) (@lx46.{0,0})) (b8 @lx64.{0} @lx90.{0} @lx66.{0} @lx72.{0} @List.drop_succ_cons.{0} @lx42.{0} @lx91.{0} @List.take_nil.{0}) (b8 @List.drop_nil.{0} (@lx17.{0,0}) (@lx34.{0,0}) (@Option.map_none.{0,0}) @DD @not_false_eq_true @C5 @AW) (b8 @and_self @KP @Bool.and_true @lx74.{0} @Bool.and_self @Bool.not_true @Bool.not_false @decide_true) (b8 @decide_false @CL @Av @Bq @Bool.true_eq_false @true_or @or_true @or_false) (b8 @false_or (@lx57.{0,0}) @List.replicate_zero.{0} @and_false @false_and @Nat.sub_zero @Nat.sub_self @Int.cast_ofNat_Int) (b8 @Int.toNat_zero @Int.toNat_one @Pa @Int.zero_le_ofNat @ND @bne_self_eq_false.{0} @Qy @Qx) @Bool.or_true) @Bool.true_or) @Bool.and_false) @Bool.false_and):=aI (aI (aI (b8 (b8 @lx45.{0} @lx53.{0} @lx39.{0} @List.getElem?_nil.{0} @lx52.{0} @lx63.{0} (@lx31.{0,0}) (@lx46.{0,0})) (b8 @lx64.{0} @lx90.{0} @lx66.{0} @lx72.{0} @List.drop_succ_cons.{0} @lx42.{0} @lx91.{0} @List.take_nil.{0}) (b8 @List.drop_nil.{0} (@lx17.{0,0}) (@lx34.{0,0}) (@Option.map_none.{0,0}) @DD @not_false_eq_true @C5 @AW) (b8 @and_self @KP @Bool.and_true @lx74.{0} @Bool.and_self @Bool.not_true @Bool.not_false @decide_true) (b8 @decide_false @CL @Av @Bq @Bool.true_eq_false @true_or @or_true @or_false) (b8 @false_or (@lx57.{0,0}) @List.replicate_zero.{0} @and_false @false_and @Nat.sub_zero @Nat.sub_self @Int.cast_ofNat_Int) (b8 @Int.toNat_zero @Int.toNat_one @Pa @Int.zero_le_ofNat @ND @bne_self_eq_false.{0} @Qy @Qx) @Bool.or_true) @Bool.true_or) @Bool.and_false) @Bool.false_and
theorem Kw (H:List Blk) (a b:Blk):(H++[a]).set H.length b=H++[b]:=by
 rw [List.set_append_right _ _ (Av _),Nat.sub_self]; rfl
theorem Bf1 {P:Program} {f:FuncId} {args:List AV} {H H':List Blk} {cnt cnt1:Nat} (h:HSpec P f args H cnt (.vw true []) H' cnt1) (ver ty esz cnt':Nat) (hv:cnt1≤ver) (hv':ver < cnt'):
  HSpec P f args H cnt (.sl H'.length ver 0 0) (H'++[⟨true,ver,ty,esz,[],false⟩]) cnt':=by
 obtain ⟨hc,h⟩:=h
 refine ⟨hc,fun w X loc cargs hr hvl=>(h w X loc cargs hr hvl).mono ?_⟩
 rintro e w' ⟨X',loc',c,he,hr',hvr,hev⟩
 have hlt:∀ k (B:Blk),H'[k]?=some B→k < H'.length:=fun k B hk=>(lx22.1 hk).1
 have hnew:∀ k (B:Blk),(H'++[(⟨true,ver,ty,esz,[],false⟩:Blk)])[k]?=some B→(k < H'.length∧H'[k]?=some B)∨(k=H'.length∧B=⟨true,ver,ty,esz,[],false⟩):=by
  intro k B hk
  rw [lx18] at hk
  split at hk
  ·rename_i hl; exact .inl ⟨hl,hk⟩
  ·rename_i hl
   exact Bd5
 have hevo:Evo w' X' ⟨loc',H',cnt1⟩ w' X' ⟨fun k=>if k=H'.length then none else loc' k,H'++[⟨true,ver,ty,esz,[],false⟩],cnt'⟩:=by
  refine ⟨rfl,rfl,rfl,Av _,fun _ _ _=>rfl,fun _ _ hs=>hs,fun _ _=>Iff.rfl,by simp only; omega,?_,?_⟩
  ·intro id B' h1 h2 h3
   simp only at h1 h3 ⊢
   rcases hnew id B' h1 with ⟨hl,h1⟩ | ⟨rfl,rfl⟩
   ·exact ⟨B',h1,h2,rfl,by rw [if_neg (by omega)],rfl,rfl,rfl⟩
   ·simp only at h3; omega
  ·intro id B' b o h1 h2 h3 h4
   simp only at h1 h3 ⊢
   rcases hnew id B' h1 with ⟨hl,h1⟩ | ⟨rfl,rfl⟩
   ·rw [if_neg (by omega)] at h3
    exact ⟨B',o,h1,h2,h3⟩
   ·rw [if_pos rfl] at h3; cases h3
 refine ⟨X',_,c,he,?_,?_,hev.trans hevo⟩
 ·refine ⟨?_,?_,hr'.lt⟩
  ·intro id B h1 h2
   rcases hnew id B h1 with ⟨hl,h1⟩ | ⟨rfl,rfl⟩
   ·obtain ⟨g1,g2,g3⟩:=hr'.blk id B h1 h2
    simp only at g1 g3 ⊢
    refine ⟨by omega,g2,?_⟩
    rw [if_neg (by omega)]
    split at g3
    ·exact g3
    ·rename_i b base hn
     obtain ⟨k1,k2,k3⟩:=g3
     refine ⟨k1,k2,fun i e he=>?_⟩
     obtain ⟨q1,q2⟩:=k3 i e he
     refine ⟨q1,fun j a ha=>?_⟩
     obtain ⟨c,e1,e2,e3⟩:=q2 j a ha
     exact ⟨c,e1,e2,e3.mono hevo hr'⟩
   ·refine ⟨hv',by simp [Dl],?_⟩
    simp only [lx8]
  ·intro id id' B B' b o o' h1 h2 h3 h4 h5 h6
   simp only at h1 h2 h5 h6
   rcases hnew id B h1 with ⟨hl,h1⟩ | ⟨rfl,rfl⟩
   ·rcases hnew id' B' h2 with ⟨hl',h2⟩ | ⟨rfl,rfl⟩
    ·rw [if_neg (by omega)] at h5 h6
     exact hr'.inj id id' B B' b o o' h1 h2 h3 h4 h5 h6
    ·rw [if_pos rfl] at h6; cases h6
   ·rw [if_pos rfl] at h5; cases h5
 ·cases hvr with
  | vw0 hz hm=>
   rename_i a cap
   obtain rfl:=hz rfl
   refine .sl ⟨_,_,rfl⟩ fun hc1 h1=>?_
   cases h1
   refine ⟨hv',fun B h1 _ _=>?_⟩
   simp only at h1
   rcases hnew _ B h1 with ⟨hl,_⟩ | ⟨_,rfl⟩
   ·omega
   ·exact ⟨by simp,.inl ⟨rfl,_,rfl⟩⟩
  | vw1 f hne=>exact absurd rfl hne
theorem Qa {P:Program} {f:FuncId} {z:Bool} {H H':List Blk} {cnt cnt':Nat} {r:AV} (h1:∀ cap,HSpec P f [.sc (.slice none 0 cap)] H cnt r H' cnt') (h2:∀ a cap,HSpec P f [.sc (.slice (some a) 0 cap)] H cnt r H' cnt'):
  HSpec P f [.vw z []] H cnt r H' cnt':=by
 refine ⟨(h1 0).1,fun w X loc cargs hr hvl=>?_⟩
 obtain ⟨hl,hv⟩:=hvl
 obtain ⟨v,hcv⟩:∃ v,cargs.toList=[v]:=by
  match hm:cargs.toList,hl with
  | [v],_=>exact ⟨v,rfl⟩
 have h0:=hv 0 (.vw z []) v rfl (by rw [hcv]; rfl)
 have key:∀ a cap,v=.slice a 0 cap→VL w X (some ⟨loc,H,cnt⟩) [.sc (.slice a 0 cap)] cargs.toList:=by
  intro a cap hva
  rw [hcv,hva]
  refine ⟨rfl,fun i x y hx hy=>?_⟩
  cases i with
  | zero=>cases hx; cases hy; exact .sc rfl
  | succ i=>simp at hx
 cases h0 with
 | vw0 hz hm=>
  rename_i a cap
  cases a with
  | none=>exact (h1 cap).2 w X loc cargs hr (key none cap rfl)
  | some a=>exact (h2 a cap).2 w X loc cargs hr (key (some a) cap rfl)
 | vw1 f hne=>exact absurd rfl hne
theorem Y0 {P:Program} {f:FuncId} {id ver lo:Nat} {H H':List Blk} {cnt cnt':Nat} {r:AV} (hlv:(AJ H id ver).isSome=true) (h1:∀ cap,HSpec P f [.sc (.slice none 0 cap)] H cnt r H' cnt') (h2:∀ a cap,HSpec P f [.sc (.slice (some a) 0 cap)] H cnt r H' cnt'):
  HSpec P f [.sl id ver lo 0] H cnt r H' cnt':=by
 refine ⟨(h1 0).1,fun w X loc cargs hr hvl=>?_⟩
 obtain ⟨hl,hv⟩:=hvl
 obtain ⟨v,hcv⟩:∃ v,cargs.toList=[v]:=by
  match hm:cargs.toList,hl with
  | [v],_=>exact ⟨v,rfl⟩
 have h0:=hv 0 (.sl id ver lo 0) v rfl (by rw [hcv]; rfl)
 have key:∀ a cap,v=.slice a 0 cap→VL w X (some ⟨loc,H,cnt⟩) [.sc (.slice a 0 cap)] cargs.toList:=by
  intro a cap hva
  rw [hcv,hva]
  refine ⟨rfl,fun i x y hx hy=>?_⟩
  cases i with
  | zero=>cases hx; cases hy; exact .sc rfl
  | succ i=>simp at hx
 obtain ⟨B,hB⟩:=Option.isSome_iff_exists.1 hlv
 obtain ⟨g1,g2,g3⟩:=Bc hB
 cases h0 with
 | sl q1 q2=>
  obtain ⟨_,r2⟩:=q2 _ rfl
  obtain ⟨_,r4⟩:=r2 B g1 g2 g3
  rcases r4 with ⟨_,a,rfl⟩ | ⟨b,base,cap,n,_,rfl,_⟩
  ·cases a with
   | none=>exact (h1 0).2 w X loc cargs hr (key none 0 rfl)
   | some a=>exact (h2 a 0).2 w X loc cargs hr (key (some a) 0 rfl)
  ·exact (h2 _ cap).2 w X loc cargs hr (key _ cap rfl)
end Go.SX
