/-
  Lemmas towards ModesSteps (joined texts: SXS, SXW, SXZ).
  Conditions: none.
-/
import Derived.Test.YtdjpkhjaibdogaaGreatL01
import Derived.Test.YtdjpkhjaibdogaaGreatL14
set_option linter.unusedSimpArgs false
set_option linter.unusedVariables false
set_option maxRecDepth 100000
namespace Go.SX
open Go.RowKit (Below)
mutual
def Gv (id ver:Nat) (els:List AV):AV→AV
 | .sl i v lo n=>if i=id∧v=ver then .vw false ((els.drop lo).take n) else .sl i v lo n
 | .ag cs=>.ag (Fq id ver els cs)
 | .sc v=>.sc v
 | .tu vs=>.tu vs
 | .pt a b c d=>.pt a b c d
 | .vw z es=>.vw z es
 | .vp es i o=>.vp es i o
 | .fn f c=>.fn f c
 | .un=>.un
 | .jk=>.jk
def Fq (id ver:Nat) (els:List AV):List AV→List AV
 | []=>[]
 | a::l=>Gv id ver els a::Fq id ver els l
end
def Bar (id ver:Nat) (els:List AV) (b:Blk):Blk:=⟨b.live,b.ver,b.ty,b.esz,Fq id ver els b.els,b.tmp⟩
def G7 (id ver:Nat) (els:List AV) (lo:Nat):Nat→List Blk→List Blk
 | _,[]=>[]
 | i,b::H=>(if i=id then dead else if i < lo then b else ⟨b.live,b.ver,b.ty,b.esz,Fq id ver els b.els,b.tmp⟩)::G7 id ver els lo (i+1) H
def Aj5 (id ver:Nat) (els:List AV):AV→AV
 | .tu vs=>.tu (Fq id ver els vs)
 | a=>Gv id ver els a
mutual
theorem Q0 (id:Nat) (B:Blk):∀ a,Frz id B a (Gv id B.ver B.els a)
 | .sl i v lo n=>by
  simp only [Gv]
  split
  ·rename_i h
   obtain ⟨rfl,rfl⟩:=h
   exact .sl lo n
  ·exact .same _
 | .ag cs=>by
  simp only [Gv]
  exact .ag (I6 id B cs).1 (I6 id B cs).2
 | .sc v=>.same _
 | .tu vs=>.same _
 | .pt ..=>.same _
 | .vw ..=>.same _
 | .vp ..=>.same _
 | .fn ..=>.same _
 | .un=>.same _
 | .jk=>.same _
theorem I6 (id:Nat) (B:Blk):∀ l:List AV,l.length=(Fq id B.ver B.els l).length∧∀ (i:Nat) (a b:AV),l[i]?=some a→(Fq id B.ver B.els l)[i]?=some b→Frz id B a b
 | []=>⟨rfl,fun i a b h=>by simp at h⟩
 | x::l=>by
  obtain ⟨h1,h2⟩:=I6 id B l
  refine ⟨by simp [Fq,h1],fun i a b ha hb=>?_⟩
  cases i with
  | zero=>
   simp only [Fq,lx45,lx16] at ha hb
   subst ha; subst hb
   exact Q0 id B x
  | succ i=>
   simp only [Fq,lx54] at ha hb
   exact h2 i a b ha hb
end
theorem NR (id:Nat) (B:Blk):∀ T:List AV,Yw id B T (Fq id B.ver B.els T)
 | []=>trivial
 | a::T=>⟨Q0 id B a,NR id B T⟩
theorem YI (id:Nat) (B:Blk) (e:AV):e.cells.length=(Gv id B.ver B.els e).cells.length∧∀ (j:Nat) (a a':AV),e.cells[j]?=some a→(Gv id B.ver B.els e).cells[j]?=some a'→Frz id B a a':=by
 have one:∀ x y:AV,Frz id B x y→∀ (j:Nat) (a a':AV),[x][j]?=some a→[y][j]?=some a'→Frz id B a a':=by
  intro x y h j a a' h1 h2
  cases j with
  | zero=>simp at h1 h2; subst h1; subst h2; exact h
  | succ j=>simp at h1
 cases e with
 | ag cs=>
  simp only [Gv,AV.cells]
  exact ⟨(I6 id B cs).1,(I6 id B cs).2⟩
 | sl i v lo n=>
  have:=Q0 id B (.sl i v lo n)
  simp only [Gv] at this ⊢
  split
  ·rename_i h
   rw [if_pos h] at this
   exact ⟨rfl,one _ _ this⟩
  ·exact ⟨rfl,one _ _ (.same _)⟩
 | _=>exact ⟨rfl,one _ _ (.same _)⟩
theorem NS (id:Nat) (B:Blk) (lo:Nat):∀ (H:List Blk) (i k:Nat) (A':Blk),(G7 id B.ver B.els lo i H)[k]?=some A'→A'.live=true→i+k≠id∧∃ A,H[k]?=some A∧FrzB id B A A'
 | [],i,k,A',h,_=>by simp [G7] at h
 | b::H,i,0,A',h,hl=>by
  simp only [G7,lx45,lx16] at h
  split at h
  ·subst h; cases hl
  ·rename_i hne
   split at h
   ·subst h
    exact ⟨by simpa using hne,b,rfl,FrzB.refl hl⟩
   subst h
   refine ⟨by simpa using hne,b,rfl,hl,rfl,rfl,rfl,(I6 id B b.els).1,fun j e e' he he'=>?_⟩
   have hj:=frz_at id B b.els j e e' he he'
   subst hj
   exact YI id B e
 | b::H,i,k+1,A',h,hl=>by
  simp only [G7,lx54] at h
  have:=NS id B lo H (i+1) k A' h hl
  refine ⟨by have:=this.1; omega,?_⟩
  simpa using this.2
where
 frz_at (id:Nat) (B:Blk):∀ (l:List AV) (j:Nat) (e e':AV),l[j]?=some e→(Fq id B.ver B.els l)[j]?=some e'→e'=Gv id B.ver B.els e
  | [],j,e,e',h,_=>by simp at h
  | x::l,0,e,e',h,h'=>by simp [Fq] at h h'; rw [←h,←h']
  | x::l,j+1,e,e',h,h'=>by
   simp only [Fq,lx54] at h h'
   exact frz_at id B l j e e' h h'
theorem M9 {l:List AV} (h:norefs l=true):∀ e ∈ l,∀ a ∈ e.cells,a.noref=true:=by
 induction l with
 | nil=>intro e he; simp at he
 | cons x l ih=>
  simp only [norefs,AX] at h
  intro e he a ha
  rcases lx59.1 he with rfl | he
  ·cases e with
   | ag cs=>
    have hn:norefs cs=true:=by simpa [AV.noref] using h.1
    simp only [AV.cells] at ha
    clear h he ih
    induction cs with
    | nil=>simp at ha
    | cons y cs ihc=>
     simp only [norefs,AX] at hn
     rcases lx59.1 ha with rfl | ha
     ·exact hn.1
     ·exact ihc ha hn.2
   | _=>
    simp only [AV.cells,lx70] at ha
    rw [ha]; exact h.1
  ·exact ih h.2 e he a ha
section
variable {P:Program} {E:Env} {n0:Nat} {rs:List ResultVar} {R:AV→St→Prop}
theorem Aj6 {k:List Item} {T:List AV} {H:List Blk} {c:Nat} (lo id:Nat) (B:Blk) (hB:H[id]?=some B) (hl:B.live=true) (hid:n0≤id) (hn:norefs B.els=true)
  (h:Go P E n0 rs R k ⟨Fq id B.ver B.els T,G7 id B.ver B.els lo 0 H,c⟩):Go P E n0 rs R k ⟨T,H,c⟩:=
 Aej id B hB hl hid (M9 hn) (NR id B T) (fun k A' h1 h2=>by
  have:=NS id B lo H 0 k A' h1 h2
  rwa [B6] at this) (Ar _) h
end
theorem HSpec.wk {P:Program} {f:FuncId} {args:List AV} {H H' H'':List Blk} {cnt cnt' cnt'':Nat} {r r':AV} (h:HSpec P f args H cnt r H' cnt') (h0:WkV H' r r') (h1:Xg H' H' H'') (h2:cnt'≤cnt''):
  HSpec P f args H cnt r' H'' cnt'':=by
 refine ⟨h.1,fun w X loc cargs hr hv=>(h.2 w X loc cargs hr hv).mono ?_⟩
 rintro e w' ⟨X',loc',c,rfl,g1,g2,g3⟩
 obtain ⟨q1,q2⟩:=Aj4 (hc:=⟨loc',H',cnt'⟩) (H':=H'') (cnt':=cnt'') g1 h1 h2
 exact ⟨X',loc',c,rfl,q1,(NQ (hc:=⟨loc',H',cnt'⟩) h0 g2).mono q2 g1,g3.trans q2⟩
theorem HSpec.frz {P:Program} {f:FuncId} {args:List AV} {H H':List Blk} {cnt cnt':Nat} {r:AV} (h:HSpec P f args H cnt r H' cnt') (lo id:Nat) (B:Blk) (hB:H'[id]?=some B) (hl:B.live=true) (hid:H.length≤id) (hn:norefs B.els=true):
  HSpec P f args H cnt (Aj5 id B.ver B.els r) (G7 id B.ver B.els lo 0 H') cnt':=by
 refine ⟨h.1,fun w X loc cargs hr hv=>(h.2 w X loc cargs hr hv).mono ?_⟩
 rintro e w' ⟨X',loc',c,rfl,g1,g2,g3⟩
 have key:∀ (T:List AV) (vs:List Value),VL w' X' (some ⟨loc',H',cnt'⟩) T vs→∃ X2 loc2,HR w' X2 ⟨loc2,G7 id B.ver B.els lo 0 H',cnt'⟩∧VL w' X2 (some ⟨loc2,G7 id B.ver B.els lo 0 H',cnt'⟩) (Fq id B.ver B.els T) vs∧Evo w X ⟨loc,H,cnt⟩ w' X2 ⟨loc2,G7 id B.ver B.els lo 0 H',cnt'⟩:=by
  intro T vs hT
  obtain ⟨X2,loc2,q1,q2⟩:=NI (n0:=H.length) (T:=T) (T':=Fq id B.ver B.els T) (H:=H') (H':=G7 id B.ver B.els lo 0 H') (c:=cnt') (c':=cnt') (loc:=loc') (a:={ tmps:=vs.toArray,defers:=[] }) id B ⟨g1,by simpa [St.hc] using hT,rfl⟩ hB hl hid (M9 hn) (NR id B T)
   (fun k A' h1 h2=>by
    have:=NS id B lo H' 0 k A' h1 h2
    rwa [B6] at this) (Ar _)
  exact ⟨X2,loc2,q1.hr,by simpa [St.hc] using q1.tm,q2 w X ⟨loc,H,cnt⟩ rfl g3⟩
 by_cases hr:∃ vs,r=.tu vs
 ·obtain ⟨vs,rfl⟩:=hr
  cases g2 with
  | tu hl' h1'=>
   rename_i us
   obtain ⟨X2,loc2,q1,q2,q3⟩:=key vs us ⟨hl',h1'⟩
   exact ⟨X2,loc2,_,rfl,q1,.tu q2.1 q2.2,q3⟩
 ·obtain ⟨X2,loc2,q1,q2,q3⟩:=key [r] [c] ⟨rfl,fun i a v h1 h2=>by
   cases i with
   | zero=>simp at h1 h2; subst h1; subst h2; exact g2
   | succ i=>simp at h1⟩
  refine ⟨X2,loc2,c,rfl,q1,?_,q3⟩
  have:=q2.2 0 (Gv id B.ver B.els r) c rfl rfl
  have e:Aj5 id B.ver B.els r=Gv id B.ver B.els r:=by
   cases r with
   | tu vs=>exact absurd ⟨vs,rfl⟩ hr
   | _=>rfl
  rw [e]; exact this
section
variable (id ver:Nat) (els:List AV)
theorem Abk (i v lo n:Nat):Gv id ver els (.sl i v lo n)=if i=id∧v=ver then .vw false ((els.drop lo).take n) else .sl i v lo n:=rfl
theorem Abl (cs:List AV):Gv id ver els (.ag cs)=.ag (Fq id ver els cs):=rfl
theorem Abm (v:Value):Gv id ver els (.sc v)=.sc v:=rfl
theorem Abn (v:List AV):Gv id ver els (.tu v)=.tu v:=rfl
theorem Abo (a b c d:Nat):Gv id ver els (.pt a b c d)=.pt a b c d:=rfl
theorem Abp (z:Bool) (es:List AV):Gv id ver els (.vw z es)=.vw z es:=rfl
theorem Abq (es:List AV) (i o:Nat):Gv id ver els (.vp es i o)=.vp es i o:=rfl
theorem Abr (f:Nat) (c:List AV):Gv id ver els (.fn f c)=.fn f c:=rfl
theorem Abs:Gv id ver els .un=.un:=rfl
theorem Abt:Gv id ver els .jk=.jk:=rfl
theorem Xj:Fq id ver els []=[]:=rfl
theorem Ta (a:AV) (l:List AV):Fq id ver els (a::l)=Gv id ver els a::Fq id ver els l:=rfl
theorem Xk (lo i:Nat):G7 id ver els lo i []=[]:=rfl
theorem Tb (lo i:Nat) (b:Blk) (H:List Blk):G7 id ver els lo i (b::H)=(if i=id then dead else if i < lo then b else Bar id ver els b)::G7 id ver els lo (i+1) H:=rfl
theorem Abu (l:Bool) (v t e:Nat) (es:List AV) (p:Bool):Bar id ver els ⟨l,v,t,e,es,p⟩=⟨l,v,t,e,Fq id ver els es,p⟩:=rfl
theorem Abv (v:List AV):Aj5 id ver els (.tu v)=.tu (Fq id ver els v):=rfl
theorem Uf (i v lo n:Nat):Aj5 id ver els (.sl i v lo n)=if i=id∧v=ver then .vw false ((els.drop lo).take n) else .sl i v lo n:=rfl
end
mutual
def YJ (a b:Nat):AV→AV
 | .sl i v lo n=>.sl (LA a b i) v lo n
 | .pt i v k o=>.pt (LA a b i) v k o
 | .ag cs=>.ag (Ug a b cs)
 | .sc v=>.sc v
 | .tu _=>.jk
 | .vw z es=>.vw z es
 | .vp es i o=>.vp es i o
 | .fn f c=>if norefs c=true then .fn f c else .jk
 | .un=>.un
 | .jk=>.jk
def Ug (a b:Nat):List AV→List AV
 | []=>[]
 | x::l=>YJ a b x::Ug a b l
end
def swB (a b:Nat) (x:Blk):Blk:=⟨x.live,x.ver,x.ty,x.esz,Ug a b x.els,x.tmp⟩
def swM (a b:Nat):List Blk→List Blk
 | []=>[]
 | x::H=>swB a b x::swM a b H
def swH (a b:Nat) (H:List Blk):List Blk:=swM a b ((H.set a (H.getD b dead)).set b (H.getD a dead))
def OT:List Blk→Bool
 | []=>true
 | b::H=>G6 b.els && OT H
mutual
theorem Abw (a b:Nat):∀ x,Ren a b x (YJ a b x)
 | .sl i v lo n=>.sl i v lo n
 | .pt i v k o=>.pt i v k o
 | .ag cs=>.ag (Uh a b cs).1 (Uh a b cs).2
 | .sc v=>.same rfl
 | .tu _=>.jk
 | .vw z es=>.same rfl
 | .vp es i o=>.same rfl
 | .fn f c=>by
  simp only [YJ]
  split
  ·rename_i h
   exact .same (by simpa [AV.noref] using h)
  ·exact .jk
 | .un=>.same rfl
 | .jk=>.same rfl
theorem Uh (a b:Nat):∀ l:List AV,l.length=(Ug a b l).length∧∀ (i:Nat) (c d:AV),l[i]?=some c→(Ug a b l)[i]?=some d→Ren a b c d
 | []=>⟨rfl,fun i c d h=>by simp at h⟩
 | x::l=>by
  obtain ⟨h1,h2⟩:=Uh a b l
  refine ⟨by simp [Ug,h1],fun i c d hc hd=>?_⟩
  cases i with
  | zero=>
   simp only [Ug,lx45,lx16] at hc hd
   subst hc; subst hd
   exact Abw a b x
  | succ i=>
   simp only [Ug,lx54] at hc hd
   exact h2 i c d hc hd
end
theorem Q1 (a b:Nat):∀ l:List AV,Aek a b l (Ug a b l)
 | []=>trivial
 | x::l=>⟨Abw a b x,Q1 a b l⟩
theorem Abx (a b:Nat):∀ (H:List Blk) (j:Nat),(swM a b H)[j]?=H[j]?.map (swB a b)
 | [],j=>rfl
 | x::H,0=>rfl
 | x::H,j+1=>by simp only [swM,lx54]; exact Abx a b H j
theorem Tc:∀ {H:List Blk},OT H=true→∀ (j:Nat) (A:Blk),H[j]?=some A→G6 A.els=true
 | [],_,j,A,h=>by simp at h
 | x::H,hn,0,A,h=>by
  simp only [OT,AX] at hn
  simp only [lx45,lx16] at h
  subst h; exact hn.1
 | x::H,hn,j+1,A,h=>by
  simp only [OT,AX] at hn
  exact Tc hn.2 j A (by simpa using h)
section
variable {P:Program} {E:Env} {n0:Nat} {rs:List ResultVar} {R:AV→St→Prop}
theorem JA {k:List Item} {T:List AV} {H:List Blk} {c:Nat} (a b:Nat) (ha:n0≤a) (hb:n0≤b) (hla:a < H.length) (hlb:b < H.length) (hj:OT (swH a b H)=true)
  (h:Go P E n0 rs R k ⟨Ug a b T,swH a b H,c⟩):Go P E n0 rs R k ⟨T,H,c⟩:=by
 refine Ane a b ha hb (Q1 a b T) (fun j A' h1 h2=>?_) h
 have hn:=Tc hj j A' h1
 have key:∀ A:Blk,A.live=true→A'=swB a b A→Anc a b A A':=by
  rintro A hl rfl
  exact ⟨hl,rfl,rfl,rfl,Q1 a b A.els,M7 hn⟩
 unfold swH at h1
 rw [Abx] at h1
 obtain ⟨A,hA,rfl⟩:=lx24.1 h1
 refine ⟨A,?_,key A h2 rfl⟩
 rw [lx21,lx21] at hA
 unfold LA
 by_cases hjb:b=j
 ·subst hjb
  rw [if_pos rfl,lx2,if_pos hlb] at hA
  by_cases hab:b=a
  ·subst hab
   rw [if_pos rfl]
   exact Aru
  ·rw [if_neg hab,if_pos rfl]
   exact Aru
 ·rw [if_neg hjb] at hA
  by_cases hja:a=j
  ·subst hja
   rw [if_pos rfl,if_pos hla] at hA
   rw [if_pos rfl]
   rw [lx80,lx51 hlb] at hA
   rw [lx51 hlb]
   simpa using hA
  ·rw [if_neg hja] at hA
   rw [if_neg (fun h=>hja h.symm),if_neg (fun h=>hjb h.symm)]
   exact hA
end
section
variable (a b:Nat)
theorem JB (i:Nat):LA a b i=if i=a then b else if i=b then a else i:=rfl
theorem LY (i v lo n:Nat):YJ a b (.sl i v lo n)=.sl (LA a b i) v lo n:=rfl
theorem LZ (i v k o:Nat):YJ a b (.pt i v k o)=.pt (LA a b i) v k o:=rfl
theorem L0 (cs:List AV):YJ a b (.ag cs)=.ag (Ug a b cs):=rfl
theorem L1 (v:Value):YJ a b (.sc v)=.sc v:=rfl
theorem L2 (v:List AV):YJ a b (.tu v)=.jk:=rfl
theorem L3 (z:Bool) (es:List AV):YJ a b (.vw z es)=.vw z es:=rfl
theorem L4 (es:List AV) (i o:Nat):YJ a b (.vp es i o)=.vp es i o:=rfl
theorem L5 (f:Nat):YJ a b (.fn f [])=.fn f []:=rfl
theorem L6:YJ a b .un=.un:=rfl
theorem L7:YJ a b .jk=.jk:=rfl
theorem JC:Ug a b []=[]:=rfl
theorem H6 (x:AV) (l:List AV):Ug a b (x::l)=YJ a b x::Ug a b l:=rfl
theorem Ui {α:Type} {f:α→AV} (h:∀ x,YJ a b (f x)=f x):∀ l:List α,Ug a b (l.map f)=l.map f
 | []=>rfl
 | x::l=>by rw [lx32,Ug,h,Ui h l]
theorem L8 (l:Bool) (v t e:Nat) (es:List AV) (p:Bool):swB a b ⟨l,v,t,e,es,p⟩=⟨l,v,t,e,Ug a b es,p⟩:=rfl
theorem JD:swM a b []=[]:=rfl
theorem H7 (x:Blk) (H:List Blk):swM a b (x::H)=swB a b x::swM a b H:=rfl
theorem JE (H:List Blk):swH a b H=swM a b ((H.set a (H.getD b dead)).set b (H.getD a dead)):=rfl
theorem NT:OT []=true:=rfl
theorem L9 (x:Blk) (H:List Blk):OT (x::H)=(G6 x.els && OT H):=rfl
theorem H8 {α:Type} {f:α→AV} (h:∀ x,f x≠.jk):∀ l:List α,G6 (l.map f)=true
 | []=>rfl
 | x::l=>by
  have:=h x
  rw [lx32]
  cases hx:f x <;> first | exact absurd hx this | exact H8 h l
end
end Go.SX
namespace Go.SX
section
variable {P:Program} {E:Env} {n0:Nat} {rs:List ResultVar} {R:AV→St→Prop} {k:List Item}
end
section
variable {α:Type}
theorem st0 (a0 v:α) (l:List α):(a0::l).set 0 v=v::l:=rfl
theorem gd0 (a0 v:α) (l:List α):(a0::l).getD 0 v=a0:=rfl
theorem st1 (a0 a1 v:α) (l:List α):(a0::a1::l).set 1 v=a0::v::l:=rfl
theorem gd1 (a0 a1 v:α) (l:List α):(a0::a1::l).getD 1 v=a1:=rfl
theorem st2 (a0 a1 a2 v:α) (l:List α):(a0::a1::a2::l).set 2 v=a0::a1::v::l:=rfl
theorem gd2 (a0 a1 a2 v:α) (l:List α):(a0::a1::a2::l).getD 2 v=a2:=rfl
theorem st3 (a0 a1 a2 a3 v:α) (l:List α):(a0::a1::a2::a3::l).set 3 v=a0::a1::a2::v::l:=rfl
theorem gd3 (a0 a1 a2 a3 v:α) (l:List α):(a0::a1::a2::a3::l).getD 3 v=a3:=rfl
theorem st4 (a0 a1 a2 a3 a4 v:α) (l:List α):(a0::a1::a2::a3::a4::l).set 4 v=a0::a1::a2::a3::v::l:=rfl
theorem gd4 (a0 a1 a2 a3 a4 v:α) (l:List α):(a0::a1::a2::a3::a4::l).getD 4 v=a4:=rfl
theorem st5 (a0 a1 a2 a3 a4 a5 v:α) (l:List α):(a0::a1::a2::a3::a4::a5::l).set 5 v=a0::a1::a2::a3::a4::v::l:=rfl
theorem gd5 (a0 a1 a2 a3 a4 a5 v:α) (l:List α):(a0::a1::a2::a3::a4::a5::l).getD 5 v=a5:=rfl
theorem st6 (a0 a1 a2 a3 a4 a5 a6 v:α) (l:List α):(a0::a1::a2::a3::a4::a5::a6::l).set 6 v=a0::a1::a2::a3::a4::a5::v::l:=rfl
theorem gd6 (a0 a1 a2 a3 a4 a5 a6 v:α) (l:List α):(a0::a1::a2::a3::a4::a5::a6::l).getD 6 v=a6:=rfl
theorem st7 (a0 a1 a2 a3 a4 a5 a6 a7 v:α) (l:List α):(a0::a1::a2::a3::a4::a5::a6::a7::l).set 7 v=a0::a1::a2::a3::a4::a5::a6::v::l:=rfl
theorem gd7 (a0 a1 a2 a3 a4 a5 a6 a7 v:α) (l:List α):(a0::a1::a2::a3::a4::a5::a6::a7::l).getD 7 v=a7:=rfl
theorem st8 (a0 a1 a2 a3 a4 a5 a6 a7 a8 v:α) (l:List α):(a0::a1::a2::a3::a4::a5::a6::a7::a8::l).set 8 v=a0::a1::a2::a3::a4::a5::a6::a7::v::l:=rfl
theorem gd8 (a0 a1 a2 a3 a4 a5 a6 a7 a8 v:α) (l:List α):(a0::a1::a2::a3::a4::a5::a6::a7::a8::l).getD 8 v=a8:=rfl
theorem st9 (a0 a1 a2 a3 a4 a5 a6 a7 a8 a9 v:α) (l:List α):(a0::a1::a2::a3::a4::a5::a6::a7::a8::a9::l).set 9 v=a0::a1::a2::a3::a4::a5::a6::a7::a8::v::l:=rfl
theorem gd9 (a0 a1 a2 a3 a4 a5 a6 a7 a8 a9 v:α) (l:List α):(a0::a1::a2::a3::a4::a5::a6::a7::a8::a9::l).getD 9 v=a9:=rfl
theorem Bat (a0 a1 a2 a3 a4 a5 a6 a7 a8 a9 Hg v:α) (l:List α):(a0::a1::a2::a3::a4::a5::a6::a7::a8::a9::Hg::l).set 10 v=a0::a1::a2::a3::a4::a5::a6::a7::a8::a9::v::l:=rfl
theorem Bau (a0 a1 a2 a3 a4 a5 a6 a7 a8 a9 Hg v:α) (l:List α):(a0::a1::a2::a3::a4::a5::a6::a7::a8::a9::Hg::l).getD 10 v=Hg:=rfl
theorem Bav (a0 a1 a2 a3 a4 a5 a6 a7 a8 a9 Hg IL v:α) (l:List α):(a0::a1::a2::a3::a4::a5::a6::a7::a8::a9::Hg::IL::l).set 11 v=a0::a1::a2::a3::a4::a5::a6::a7::a8::a9::Hg::v::l:=rfl
theorem Baw (a0 a1 a2 a3 a4 a5 a6 a7 a8 a9 Hg IL v:α) (l:List α):(a0::a1::a2::a3::a4::a5::a6::a7::a8::a9::Hg::IL::l).getD 11 v=IL:=rfl
theorem Bax (a0 a1 a2 a3 a4 a5 a6 a7 a8 a9 Hg IL G0 v:α) (l:List α):(a0::a1::a2::a3::a4::a5::a6::a7::a8::a9::Hg::IL::G0::l).set 12 v=a0::a1::a2::a3::a4::a5::a6::a7::a8::a9::Hg::IL::v::l:=rfl
theorem Bay (a0 a1 a2 a3 a4 a5 a6 a7 a8 a9 Hg IL G0 v:α) (l:List α):(a0::a1::a2::a3::a4::a5::a6::a7::a8::a9::Hg::IL::G0::l).getD 12 v=G0:=rfl
theorem Baz (a0 a1 a2 a3 a4 a5 a6 a7 a8 a9 Hg IL G0 IV v:α) (l:List α):(a0::a1::a2::a3::a4::a5::a6::a7::a8::a9::Hg::IL::G0::IV::l).set 13 v=a0::a1::a2::a3::a4::a5::a6::a7::a8::a9::Hg::IL::G0::v::l:=rfl
theorem Bb0 (a0 a1 a2 a3 a4 a5 a6 a7 a8 a9 Hg IL G0 IV v:α) (l:List α):(a0::a1::a2::a3::a4::a5::a6::a7::a8::a9::Hg::IL::G0::IV::l).getD 13 v=IV:=rfl
theorem Bb1 (a0 a1 a2 a3 a4 a5 a6 a7 a8 a9 Hg IL G0 IV a14 v:α) (l:List α):(a0::a1::a2::a3::a4::a5::a6::a7::a8::a9::Hg::IL::G0::IV::a14::l).set 14 v=a0::a1::a2::a3::a4::a5::a6::a7::a8::a9::Hg::IL::G0::IV::v::l:=rfl
theorem Bb2 (a0 a1 a2 a3 a4 a5 a6 a7 a8 a9 Hg IL G0 IV a14 v:α) (l:List α):(a0::a1::a2::a3::a4::a5::a6::a7::a8::a9::Hg::IL::G0::IV::a14::l).getD 14 v=a14:=rfl
theorem Bb3 (a0 a1 a2 a3 a4 a5 a6 a7 a8 a9 Hg IL G0 IV a14 a15 v:α) (l:List α):(a0::a1::a2::a3::a4::a5::a6::a7::a8::a9::Hg::IL::G0::IV::a14::a15::l).set 15 v=a0::a1::a2::a3::a4::a5::a6::a7::a8::a9::Hg::IL::G0::IV::a14::v::l:=rfl
theorem Bb4 (a0 a1 a2 a3 a4 a5 a6 a7 a8 a9 Hg IL G0 IV a14 a15 v:α) (l:List α):(a0::a1::a2::a3::a4::a5::a6::a7::a8::a9::Hg::IL::G0::IV::a14::a15::l).getD 15 v=a15:=rfl
theorem Bb5 (a0 a1 a2 a3 a4 a5 a6 a7 a8 a9 Hg IL G0 IV a14 a15 v:α) (l:List α) (n:Nat):(a0::a1::a2::a3::a4::a5::a6::a7::a8::a9::Hg::IL::G0::IV::a14::a15::l).set (n+16) v=a0::a1::a2::a3::a4::a5::a6::a7::a8::a9::Hg::IL::G0::IV::a14::a15::l.set n v:=rfl
theorem Bb6 (a0 a1 a2 a3 a4 a5 a6 a7 a8 a9 Hg IL G0 IV a14 a15 v:α) (l:List α) (n:Nat):(a0::a1::a2::a3::a4::a5::a6::a7::a8::a9::Hg::IL::G0::IV::a14::a15::l).getD (n+16) v=l.getD n v:=rfl
end
theorem AW:type_of% (aI (aI (b8 (b8 (b8 @Ahi @Ahj @VD @Z6 @Ahk @VE @P9 @Z7) (b8 @Sn @Z8 @VF @Qa @OD @Lr @Z9 @VG) (b8 @So @Aa0 @Aa1 @VH @Sq @Asg @Ash @Sr) (b8 @VI @Qc @Qd @OE @Ss @Qe @Qf @Aa2) (b8 @Aa3 @Asi @Aa4 @Ahl @VJ @Aa5 @Ahm @VM) (b8 @Aa6 @Aa7 @Su @Aa8 @Sv @VN @Aa9 @Sw) (b8 @Sx @Aaa @Sy @Aab @Sz @OF @Lt @VO) (b8 @Qh @Aac @SA @Qi @MM @OG @Lu @VP)) (b8 (b8 @MN @Kj @MO @Kk @VQ @Qj @Qk @VS) (b8 @Ql @Aho @VT @Ahp @VU @Ahq @VV @Ahr) (b8 @Lv @VW @MP @SB @VX @Ahs @Aad @Aht) (b8 @Aae @Ahu @Ahv @SC @OH @SD @Qm @SE) (b8 @VY @VZ @V0 @V1 @V2 @V3 @SF @SG) (b8 @V4 @V5 @V6 @V7 @OI @Jw @Aag @Aah) (b8 @Aai @OJ @V8 @V9 @Wa @Wb @T4 @T5) (b8 @Aaj @T6 @T7 @T8 @T9 @Ua @Ub @Aam)) (b8 (b8 @Ahx @Qn @SH @Ahy @Ahz @Fz @Pj @Kl) (b8 @Wc @Wd @We @Ai0 @Ai1 @Wf @Lw @MR) (b8 @Aap @SI @Aaq @Wg @Aar @Qo @Qp @Wh) (b8 @Aas @OK @MS @MU @Wi @Wj @Wk @Ai2) (b8 @Ai3 @Ai4 @Ai5 @Wl @Wm @Lx @MV @SJ) (b8 @Aat @SK @Aau @Wn @Wo @Wp @Aav @Qq) (b8 @Qr @Wq @Aaw @OL @MW @MX @Wr @Aax) (b8 @Ai6 @Ai7 @Ai8 @Ai9 @Ws @Wt @Ly @MY)) (b8 (b8 @SL @Wu @SM @Wv @Qs @VK @Aak @Aal) (b8 @Aan @Aao @Qb @Xc @S5 @SN @Qt @SO) (b8 @Qv @Km @Ww @Aib @Aic @Wx @Wy @Aay) (b8 @Aaz @Ab0 @SQ @Qy @Sj @P5 @Ahb @Ahc) (b8 @Asf @Vz @Sk @VA @Sl @VB @Oy @Sm) (b8 @Oz @P6 @P7 @OA @OB @ML @Ab1 @Wz) (b8 @SS @Qz @WA @Aig @WB @SU @QI @QJ) (b8 @CN @Ct @Ab2 @Ab3 @Ab4 @Ab5 @SV @QK)) (b8 @st0 @st1 @st2 @st3 @st4 @st5 @st6 @st7) (b8 @st8 @st9 @Bat @Bav @Bax @Baz @Bb1 @Bb3) (b8 @Bb5 @gd0 @gd1 @gd2 @gd3 @gd4 @gd5 @gd6) (b8 @gd7 @gd8 @gd9 @Bau @Baw @Bay @Bb0 @Bb2)) @Bb4) @Bb6):=aI (aI (b8 (b8 (b8 @Ahi @Ahj @VD @Z6 @Ahk @VE @P9 @Z7) (b8 @Sn @Z8 @VF @Qa @OD @Lr @Z9 @VG) (b8 @So @Aa0 @Aa1 @VH @Sq @Asg @Ash @Sr) (b8 @VI @Qc @Qd @OE @Ss @Qe @Qf @Aa2) (b8 @Aa3 @Asi @Aa4 @Ahl @VJ @Aa5 @Ahm @VM) (b8 @Aa6 @Aa7 @Su @Aa8 @Sv @VN @Aa9 @Sw) (b8 @Sx @Aaa @Sy @Aab @Sz @OF @Lt @VO) (b8 @Qh @Aac @SA @Qi @MM @OG @Lu @VP)) (b8 (b8 @MN @Kj @MO @Kk @VQ @Qj @Qk @VS) (b8 @Ql @Aho @VT @Ahp @VU @Ahq @VV @Ahr) (b8 @Lv @VW @MP @SB @VX @Ahs @Aad @Aht) (b8 @Aae @Ahu @Ahv @SC @OH @SD @Qm @SE) (b8 @VY @VZ @V0 @V1 @V2 @V3 @SF @SG) (b8 @V4 @V5 @V6 @V7 @OI @Jw @Aag @Aah) (b8 @Aai @OJ @V8 @V9 @Wa @Wb @T4 @T5) (b8 @Aaj @T6 @T7 @T8 @T9 @Ua @Ub @Aam)) (b8 (b8 @Ahx @Qn @SH @Ahy @Ahz @Fz @Pj @Kl) (b8 @Wc @Wd @We @Ai0 @Ai1 @Wf @Lw @MR) (b8 @Aap @SI @Aaq @Wg @Aar @Qo @Qp @Wh) (b8 @Aas @OK @MS @MU @Wi @Wj @Wk @Ai2) (b8 @Ai3 @Ai4 @Ai5 @Wl @Wm @Lx @MV @SJ) (b8 @Aat @SK @Aau @Wn @Wo @Wp @Aav @Qq) (b8 @Qr @Wq @Aaw @OL @MW @MX @Wr @Aax) (b8 @Ai6 @Ai7 @Ai8 @Ai9 @Ws @Wt @Ly @MY)) (b8 (b8 @SL @Wu @SM @Wv @Qs @VK @Aak @Aal) (b8 @Aan @Aao @Qb @Xc @S5 @SN @Qt @SO) (b8 @Qv @Km @Ww @Aib @Aic @Wx @Wy @Aay) (b8 @Aaz @Ab0 @SQ @Qy @Sj @P5 @Ahb @Ahc) (b8 @Asf @Vz @Sk @VA @Sl @VB @Oy @Sm) (b8 @Oz @P6 @P7 @OA @OB @ML @Ab1 @Wz) (b8 @SS @Qz @WA @Aig @WB @SU @QI @QJ) (b8 @CN @Ct @Ab2 @Ab3 @Ab4 @Ab5 @SV @QK)) (b8 @st0 @st1 @st2 @st3 @st4 @st5 @st6 @st7) (b8 @st8 @st9 @Bat @Bav @Bax @Baz @Bb1 @Bb3) (b8 @Bb5 @gd0 @gd1 @gd2 @gd3 @gd4 @gd5 @gd6) (b8 @gd7 @gd8 @gd9 @Bau @Baw @Bay @Bb0 @Bb2)) @Bb4) @Bb6
theorem CK:type_of% (aI (aI (aI (b8 (b8 @ON @WH @Aii @WI @WJ @WK @JY @Aij) (b8 @WL @WM @Aik @I4 @Ail @WN @WO @WQ) (b8 @M4 @Aim @WR @WS @Abc @Ain @WT @OP) (b8 @WX @WY @Aiq @SY @WZ @Abe @W0 @SZ) (b8 @S0 @W1 @W2 @Air @Ab8 @Ab9 @Aba @Abb) (b8 @S3 @S4 @S1 @S2 @OR @QT @QU @Avk) (b8 @Bao @Bap @Baq @SP @Qw @QS @Ait @Aiu) (b8 @Aiv @W4 @W5 @W6 @W7 @W8 @Kq @OQ)) (b8 (b8 @Ais @W9 @Xa @Aiw @Aix @WC @WD @WE) (b8 @Ab6 @Asm @Asn @WG @W3 @Xd @QW @Xb) (b8 @OO @Aio @WU @WV @Aip @WW @KW @Ck) (b8 @S8 @YH @Ks @M8 @Abf @Abj @S7 @Abd) (b8 @Xe @Aiz @Aj0 @Aj1 @Aj2 @Abg @Xf @Lz) @Xi @QY @QZ)) @Xh) @S9):=aI (aI (aI (b8 (b8 @ON @WH @Aii @WI @WJ @WK @JY @Aij) (b8 @WL @WM @Aik @I4 @Ail @WN @WO @WQ) (b8 @M4 @Aim @WR @WS @Abc @Ain @WT @OP) (b8 @WX @WY @Aiq @SY @WZ @Abe @W0 @SZ) (b8 @S0 @W1 @W2 @Air @Ab8 @Ab9 @Aba @Abb) (b8 @S3 @S4 @S1 @S2 @OR @QT @QU @Avk) (b8 @Bao @Bap @Baq @SP @Qw @QS @Ait @Aiu) (b8 @Aiv @W4 @W5 @W6 @W7 @W8 @Kq @OQ)) (b8 (b8 @Ais @W9 @Xa @Aiw @Aix @WC @WD @WE) (b8 @Ab6 @Asm @Asn @WG @W3 @Xd @QW @Xb) (b8 @OO @Aio @WU @WV @Aip @WW @KW @Ck) (b8 @S8 @YH @Ks @M8 @Abf @Abj @S7 @Abd) (b8 @Xe @Aiz @Aj0 @Aj1 @Aj2 @Abg @Xf @Lz) @Xi @QY @QZ)) @Xh) @S9
theorem AY:type_of% (aI (b8 (b8 @lx45.{0} @lx54.{0} @lx39.{0} @List.getElem?_nil.{0} @lx53.{0} @lx63.{0} (@lx32.{0,0}) (@lx47.{0,0})) (b8 @lx64.{0} @lx91.{0} @lx66.{0} @lx73.{0} @List.drop_succ_cons.{0} @lx42.{0} @lx92.{0} @List.take_nil.{0}) (b8 @List.drop_nil.{0} (@lx17.{0,0}) (@lx34.{0,0}) (@Option.map_none.{0,0}) @Dy @not_false_eq_true @CY @Ay) (b8 @and_self @GX @GY @beq_self_eq_true.{0} @Bool.and_self @My @J9 @decide_true) (b8 @decide_false @B6 @Ar @Bu @Bool.true_eq_false @true_or @or_true @Fj) (b8 @false_or (@lx58.{0,0}) @List.replicate_zero.{0} @and_false @false_and @Nat.sub_zero @Mx @Int.cast_ofNat_Int) (b8 @Hp @Int.zero_le_ofNat @NA @bne_self_eq_false.{0} @Jo @IK @Ka @Kb) @HS) @LK):=aI (b8 (b8 @lx45.{0} @lx54.{0} @lx39.{0} @List.getElem?_nil.{0} @lx53.{0} @lx63.{0} (@lx32.{0,0}) (@lx47.{0,0})) (b8 @lx64.{0} @lx91.{0} @lx66.{0} @lx73.{0} @List.drop_succ_cons.{0} @lx42.{0} @lx92.{0} @List.take_nil.{0}) (b8 @List.drop_nil.{0} (@lx17.{0,0}) (@lx34.{0,0}) (@Option.map_none.{0,0}) @Dy @not_false_eq_true @CY @Ay) (b8 @and_self @GX @GY @beq_self_eq_true.{0} @Bool.and_self @My @J9 @decide_true) (b8 @decide_false @B6 @Ar @Bu @Bool.true_eq_false @true_or @or_true @Fj) (b8 @false_or (@lx58.{0,0}) @List.replicate_zero.{0} @and_false @false_and @Nat.sub_zero @Mx @Int.cast_ofNat_Int) (b8 @Hp @Int.zero_le_ofNat @NA @bne_self_eq_false.{0} @Jo @IK @Ka @Kb) @HS) @LK
end Go.SX
