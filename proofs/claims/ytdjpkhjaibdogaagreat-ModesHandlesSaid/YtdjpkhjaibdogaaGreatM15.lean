/-
  Lemmas towards ModesHandles (joined texts: SXS, SXW, SXZ).
  Conditions: none.
-/
import Derived.Test.YtdjpkhjaibdogaaGreatM01
import Derived.Test.YtdjpkhjaibdogaaGreatM14
set_option linter.unusedSimpArgs false
set_option linter.unusedVariables false
set_option maxRecDepth 100000
namespace Go.SX
open Go.RowKit (Below)
mutual
def GD (id ver:Nat) (els:List AV):AV→AV
 | .sl i v lo n=>if i=id∧v=ver then .vw false ((els.drop lo).take n) else .sl i v lo n
 | .ag cs=>.ag (F2 id ver els cs)
 | .sc v=>.sc v
 | .tu vs=>.tu vs
 | .pt a b c d=>.pt a b c d
 | .vw z es=>.vw z es
 | .vp es i o=>.vp es i o
 | .fn f c=>.fn f c
 | .un=>.un
 | .jk=>.jk
def F2 (id ver:Nat) (els:List AV):List AV→List AV
 | []=>[]
 | a::l=>GD id ver els a::F2 id ver els l
end
def Ay6 (id ver:Nat) (els:List AV) (b:Blk):Blk:=⟨b.live,b.ver,b.ty,b.esz,F2 id ver els b.els,b.tmp⟩
def HU (id ver:Nat) (els:List AV) (lo:Nat):Nat→List Blk→List Blk
 | _,[]=>[]
 | i,b::H=>(if i=id then dead else if i < lo then b else ⟨b.live,b.ver,b.ty,b.esz,F2 id ver els b.els,b.tmp⟩)::HU id ver els lo (i+1) H
def Aha (id ver:Nat) (els:List AV):AV→AV
 | .tu vs=>.tu (F2 id ver els vs)
 | a=>GD id ver els a
mutual
theorem P6 (id:Nat) (B:Blk):∀ a,Frz id B a (GD id B.ver B.els a)
 | .sl i v lo n=>by
  simp only [GD]
  split
  ·rename_i h
   obtain ⟨rfl,rfl⟩:=h
   exact .sl lo n
  ·exact .same _
 | .ag cs=>by
  simp only [GD]
  exact .ag (IG id B cs).1 (IG id B cs).2
 | .sc v=>.same _
 | .tu vs=>.same _
 | .pt ..=>.same _
 | .vw ..=>.same _
 | .vp ..=>.same _
 | .fn ..=>.same _
 | .un=>.same _
 | .jk=>.same _
theorem IG (id:Nat) (B:Blk):∀ l:List AV,l.length=(F2 id B.ver B.els l).length∧∀ (i:Nat) (a b:AV),l[i]?=some a→(F2 id B.ver B.els l)[i]?=some b→Frz id B a b
 | []=>⟨rfl,fun i a b h=>by simp at h⟩
 | x::l=>by
  obtain ⟨h1,h2⟩:=IG id B l
  refine ⟨by simp [F2,h1],fun i a b ha hb=>?_⟩
  cases i with
  | zero=>
   simp only [F2,lx45,lx16] at ha hb
   subst ha; subst hb
   exact P6 id B x
  | succ i=>
   simp only [F2,lx54] at ha hb
   exact h2 i a b ha hb
end
theorem M9 (id:Nat) (B:Blk):∀ T:List AV,XJ id B T (F2 id B.ver B.els T)
 | []=>trivial
 | a::T=>⟨P6 id B a,M9 id B T⟩
theorem XW (id:Nat) (B:Blk) (e:AV):e.cells.length=(GD id B.ver B.els e).cells.length∧∀ (j:Nat) (a a':AV),e.cells[j]?=some a→(GD id B.ver B.els e).cells[j]?=some a'→Frz id B a a':=by
 have one:∀ x y:AV,Frz id B x y→∀ (j:Nat) (a a':AV),[x][j]?=some a→[y][j]?=some a'→Frz id B a a':=by
  intro x y h j a a' h1 h2
  cases j with
  | zero=>simp at h1 h2; subst h1; subst h2; exact h
  | succ j=>simp at h1
 cases e with
 | ag cs=>
  simp only [GD,AV.cells]
  exact ⟨(IG id B cs).1,(IG id B cs).2⟩
 | sl i v lo n=>
  have:=P6 id B (.sl i v lo n)
  simp only [GD] at this ⊢
  split
  ·rename_i h
   rw [if_pos h] at this
   exact ⟨rfl,one _ _ this⟩
  ·exact ⟨rfl,one _ _ (.same _)⟩
 | _=>exact ⟨rfl,one _ _ (.same _)⟩
theorem Na (id:Nat) (B:Blk) (lo:Nat):∀ (H:List Blk) (i k:Nat) (A':Blk),(HU id B.ver B.els lo i H)[k]?=some A'→A'.live=true→i+k≠id∧∃ A,H[k]?=some A∧FrzB id B A A'
 | [],i,k,A',h,_=>by simp [HU] at h
 | b::H,i,0,A',h,hl=>by
  simp only [HU,lx45,lx16] at h
  split at h
  ·subst h; cases hl
  ·rename_i hne
   split at h
   ·subst h
    exact ⟨by simpa using hne,b,rfl,FrzB.refl hl⟩
   subst h
   refine ⟨by simpa using hne,b,rfl,hl,rfl,rfl,rfl,(IG id B b.els).1,fun j e e' he he'=>?_⟩
   have hj:=frz_at id B b.els j e e' he he'
   subst hj
   exact XW id B e
 | b::H,i,k+1,A',h,hl=>by
  simp only [HU,lx54] at h
  have:=Na id B lo H (i+1) k A' h hl
  refine ⟨by have:=this.1; omega,?_⟩
  simpa using this.2
where
 frz_at (id:Nat) (B:Blk):∀ (l:List AV) (j:Nat) (e e':AV),l[j]?=some e→(F2 id B.ver B.els l)[j]?=some e'→e'=GD id B.ver B.els e
  | [],j,e,e',h,_=>by simp at h
  | x::l,0,e,e',h,h'=>by simp [F2] at h h'; rw [←h,←h']
  | x::l,j+1,e,e',h,h'=>by
   simp only [F2,lx54] at h h'
   exact frz_at id B l j e e' h h'
theorem Mo {l:List AV} (h:norefs l=true):∀ e ∈ l,∀ a ∈ e.cells,a.noref=true:=by
 induction l with
 | nil=>intro e he; simp at he
 | cons x l ih=>
  simp only [norefs,AT] at h
  intro e he a ha
  rcases lx59.1 he with rfl | he
  ·cases e with
   | ag cs=>
    have hn:norefs cs=true:=by simpa [AV.noref] using h.1
    simp only [AV.cells] at ha
    clear h he ih
    induction cs with
    | nil=>simp at ha
    | cons y cs ihc=>
     simp only [norefs,AT] at hn
     rcases lx59.1 ha with rfl | ha
     ·exact hn.1
     ·exact ihc ha hn.2
   | _=>
    simp only [AV.cells,lx70] at ha
    rw [ha]; exact h.1
  ·exact ih h.2 e he a ha
section
variable {P:Program} {E:Env} {n0:Nat} {rs:List ResultVar} {R:AV→St→Prop}
theorem At8 {k:List Item} {T:List AV} {H:List Blk} {c:Nat} (lo id:Nat) (B:Blk) (hB:H[id]?=some B) (hl:B.live=true) (hid:n0≤id) (hn:norefs B.els=true)
  (h:Go P E n0 rs R k ⟨F2 id B.ver B.els T,HU id B.ver B.els lo 0 H,c⟩):Go P E n0 rs R k ⟨T,H,c⟩:=
 Acq id B hB hl hid (Mo hn) (M9 id B T) (fun k A' h1 h2=>by
  have:=Na id B lo H 0 k A' h1 h2
  rwa [B4] at this) (Aw _) h
end
theorem HSpec.wk {P:Program} {f:FuncId} {args:List AV} {H H' H'':List Blk} {cnt cnt' cnt'':Nat} {r r':AV} (h:HSpec P f args H cnt r H' cnt') (h0:WkV H' r r') (h1:WA H' H' H'') (h2:cnt'≤cnt''):
  HSpec P f args H cnt r' H'' cnt'':=by
 refine ⟨h.1,fun w X loc cargs hr hv=>(h.2 w X loc cargs hr hv).mono ?_⟩
 rintro e w' ⟨X',loc',c,rfl,g1,g2,g3⟩
 obtain ⟨q1,q2⟩:=Ah9 (hc:=⟨loc',H',cnt'⟩) (H':=H'') (cnt':=cnt'') g1 h1 h2
 exact ⟨X',loc',c,rfl,q1,(M7 (hc:=⟨loc',H',cnt'⟩) h0 g2).mono q2 g1,g3.trans q2⟩
theorem HSpec.frz {P:Program} {f:FuncId} {args:List AV} {H H':List Blk} {cnt cnt':Nat} {r:AV} (h:HSpec P f args H cnt r H' cnt') (lo id:Nat) (B:Blk) (hB:H'[id]?=some B) (hl:B.live=true) (hid:H.length≤id) (hn:norefs B.els=true):
  HSpec P f args H cnt (Aha id B.ver B.els r) (HU id B.ver B.els lo 0 H') cnt':=by
 refine ⟨h.1,fun w X loc cargs hr hv=>(h.2 w X loc cargs hr hv).mono ?_⟩
 rintro e w' ⟨X',loc',c,rfl,g1,g2,g3⟩
 have key:∀ (T:List AV) (vs:List Value),VL w' X' (some ⟨loc',H',cnt'⟩) T vs→∃ X2 loc2,HR w' X2 ⟨loc2,HU id B.ver B.els lo 0 H',cnt'⟩∧VL w' X2 (some ⟨loc2,HU id B.ver B.els lo 0 H',cnt'⟩) (F2 id B.ver B.els T) vs∧Evo w X ⟨loc,H,cnt⟩ w' X2 ⟨loc2,HU id B.ver B.els lo 0 H',cnt'⟩:=by
  intro T vs hT
  obtain ⟨X2,loc2,q1,q2⟩:=M0 (n0:=H.length) (T:=T) (T':=F2 id B.ver B.els T) (H:=H') (H':=HU id B.ver B.els lo 0 H') (c:=cnt') (c':=cnt') (loc:=loc') (a:={ tmps:=vs.toArray,defers:=[] }) id B ⟨g1,by simpa [St.hc] using hT,rfl⟩ hB hl hid (Mo hn) (M9 id B T)
   (fun k A' h1 h2=>by
    have:=Na id B lo H' 0 k A' h1 h2
    rwa [B4] at this) (Aw _)
  exact ⟨X2,loc2,q1.hr,by simpa [St.hc] using q1.tm,q2 w X ⟨loc,H,cnt⟩ rfl g3⟩
 by_cases hr:∃ vs,r=.tu vs
 ·obtain ⟨vs,rfl⟩:=hr
  cases g2 with
  | tu hl' h1'=>
   rename_i us
   obtain ⟨X2,loc2,q1,q2,q3⟩:=key vs us ⟨hl',h1'⟩
   exact ⟨X2,loc2,_,rfl,q1,.tu q2.1 q2.2,q3⟩
 ·obtain ⟨X2,loc2,q1,q2,q3⟩:=key [r] [c] ⟨rfl,fun i a v h1 h2=>by
   cases i with
   | zero=>simp at h1 h2; subst h1; subst h2; exact g2
   | succ i=>simp at h1⟩
  refine ⟨X2,loc2,c,rfl,q1,?_,q3⟩
  have:=q2.2 0 (GD id B.ver B.els r) c rfl rfl
  have e:Aha id B.ver B.els r=GD id B.ver B.els r:=by
   cases r with
   | tu vs=>exact absurd ⟨vs,rfl⟩ hr
   | _=>rfl
  rw [e]; exact this
section
variable (id ver:Nat) (els:List AV)
theorem Al5 (i v lo n:Nat):GD id ver els (.sl i v lo n)=if i=id∧v=ver then .vw false ((els.drop lo).take n) else .sl i v lo n:=rfl
theorem Al6 (cs:List AV):GD id ver els (.ag cs)=.ag (F2 id ver els cs):=rfl
theorem Al7 (v:Value):GD id ver els (.sc v)=.sc v:=rfl
theorem Al8 (v:List AV):GD id ver els (.tu v)=.tu v:=rfl
theorem Al9 (a b c d:Nat):GD id ver els (.pt a b c d)=.pt a b c d:=rfl
theorem Ala (z:Bool) (es:List AV):GD id ver els (.vw z es)=.vw z es:=rfl
theorem Alb (es:List AV) (i o:Nat):GD id ver els (.vp es i o)=.vp es i o:=rfl
theorem Alc (f:Nat) (c:List AV):GD id ver els (.fn f c)=.fn f c:=rfl
theorem Ald:GD id ver els .un=.un:=rfl
theorem Ale:GD id ver els .jk=.jk:=rfl
theorem Ahb:F2 id ver els []=[]:=rfl
theorem Acu (a:AV) (l:List AV):F2 id ver els (a::l)=GD id ver els a::F2 id ver els l:=rfl
theorem Ahc (lo i:Nat):HU id ver els lo i []=[]:=rfl
theorem Acv (lo i:Nat) (b:Blk) (H:List Blk):HU id ver els lo i (b::H)=(if i=id then dead else if i < lo then b else Ay6 id ver els b)::HU id ver els lo (i+1) H:=rfl
theorem Alf (l:Bool) (v t e:Nat) (es:List AV) (p:Bool):Ay6 id ver els ⟨l,v,t,e,es,p⟩=⟨l,v,t,e,F2 id ver els es,p⟩:=rfl
theorem Alg (v:List AV):Aha id ver els (.tu v)=.tu (F2 id ver els v):=rfl
theorem Aac (i v lo n:Nat):Aha id ver els (.sl i v lo n)=if i=id∧v=ver then .vw false ((els.drop lo).take n) else .sl i v lo n:=rfl
end
mutual
def XX (a b:Nat):AV→AV
 | .sl i v lo n=>.sl (K8 a b i) v lo n
 | .pt i v k o=>.pt (K8 a b i) v k o
 | .ag cs=>.ag (Tz a b cs)
 | .sc v=>.sc v
 | .tu _=>.jk
 | .vw z es=>.vw z es
 | .vp es i o=>.vp es i o
 | .fn f c=>if norefs c=true then .fn f c else .jk
 | .un=>.un
 | .jk=>.jk
def Tz (a b:Nat):List AV→List AV
 | []=>[]
 | x::l=>XX a b x::Tz a b l
end
def swB (a b:Nat) (x:Blk):Blk:=⟨x.live,x.ver,x.ty,x.esz,Tz a b x.els,x.tmp⟩
def swM (a b:Nat):List Blk→List Blk
 | []=>[]
 | x::H=>swB a b x::swM a b H
def swH (a b:Nat) (H:List Blk):List Blk:=swM a b ((H.set a (H.getD b dead)).set b (H.getD a dead))
def N7:List Blk→Bool
 | []=>true
 | b::H=>GC b.els && N7 H
mutual
theorem Aad (a b:Nat):∀ x,Ren a b x (XX a b x)
 | .sl i v lo n=>.sl i v lo n
 | .pt i v k o=>.pt i v k o
 | .ag cs=>.ag (TA a b cs).1 (TA a b cs).2
 | .sc v=>.same rfl
 | .tu _=>.jk
 | .vw z es=>.same rfl
 | .vp es i o=>.same rfl
 | .fn f c=>by
  simp only [XX]
  split
  ·rename_i h
   exact .same (by simpa [AV.noref] using h)
  ·exact .jk
 | .un=>.same rfl
 | .jk=>.same rfl
theorem TA (a b:Nat):∀ l:List AV,l.length=(Tz a b l).length∧∀ (i:Nat) (c d:AV),l[i]?=some c→(Tz a b l)[i]?=some d→Ren a b c d
 | []=>⟨rfl,fun i c d h=>by simp at h⟩
 | x::l=>by
  obtain ⟨h1,h2⟩:=TA a b l
  refine ⟨by simp [Tz,h1],fun i c d hc hd=>?_⟩
  cases i with
  | zero=>
   simp only [Tz,lx45,lx16] at hc hd
   subst hc; subst hd
   exact Aad a b x
  | succ i=>
   simp only [Tz,lx54] at hc hd
   exact h2 i c d hc hd
end
theorem P7 (a b:Nat):∀ l:List AV,Acr a b l (Tz a b l)
 | []=>trivial
 | x::l=>⟨Aad a b x,P7 a b l⟩
theorem Aae (a b:Nat):∀ (H:List Blk) (j:Nat),(swM a b H)[j]?=H[j]?.map (swB a b)
 | [],j=>rfl
 | x::H,0=>rfl
 | x::H,j+1=>by simp only [swM,lx54]; exact Aae a b H j
theorem Sz:∀ {H:List Blk},N7 H=true→∀ (j:Nat) (A:Blk),H[j]?=some A→GC A.els=true
 | [],_,j,A,h=>by simp at h
 | x::H,hn,0,A,h=>by
  simp only [N7,AT] at hn
  simp only [lx45,lx16] at h
  subst h; exact hn.1
 | x::H,hn,j+1,A,h=>by
  simp only [N7,AT] at hn
  exact Sz hn.2 j A (by simpa using h)
section
variable {P:Program} {E:Env} {n0:Nat} {rs:List ResultVar} {R:AV→St→Prop}
theorem J7 {k:List Item} {T:List AV} {H:List Blk} {c:Nat} (a b:Nat) (ha:n0≤a) (hb:n0≤b) (hla:a < H.length) (hlb:b < H.length) (hj:N7 (swH a b H)=true)
  (h:Go P E n0 rs R k ⟨Tz a b T,swH a b H,c⟩):Go P E n0 rs R k ⟨T,H,c⟩:=by
 refine Al4 a b ha hb (P7 a b T) (fun j A' h1 h2=>?_) h
 have hn:=Sz hj j A' h1
 have key:∀ A:Blk,A.live=true→A'=swB a b A→Al3 a b A A':=by
  rintro A hl rfl
  exact ⟨hl,rfl,rfl,rfl,P7 a b A.els,Mm hn⟩
 unfold swH at h1
 rw [Aae] at h1
 obtain ⟨A,hA,rfl⟩:=lx24.1 h1
 refine ⟨A,?_,key A h2 rfl⟩
 rw [lx21,lx21] at hA
 unfold K8
 by_cases hjb:b=j
 ·subst hjb
  rw [if_pos rfl,lx2,if_pos hlb] at hA
  by_cases hab:b=a
  ·subst hab
   rw [if_pos rfl]
   exact Apk
  ·rw [if_neg hab,if_pos rfl]
   exact Apk
 ·rw [if_neg hjb] at hA
  by_cases hja:a=j
  ·subst hja
   rw [if_pos rfl,if_pos hla] at hA
   rw [if_pos rfl]
   rw [lx80,lx51 hlb] at hA
   rw [lx51 hlb]
   simpa using hA
  ·rw [if_neg hja] at hA
   rw [if_neg (fun h=>hja h.symm),if_neg (fun h=>hjb h.symm)]
   exact hA
end
section
variable (a b:Nat)
theorem Mp (i:Nat):K8 a b i=if i=a then b else if i=b then a else i:=rfl
theorem P8 (i v lo n:Nat):XX a b (.sl i v lo n)=.sl (K8 a b i) v lo n:=rfl
theorem P9 (i v k o:Nat):XX a b (.pt i v k o)=.pt (K8 a b i) v k o:=rfl
theorem Qa (cs:List AV):XX a b (.ag cs)=.ag (Tz a b cs):=rfl
theorem Qb (v:Value):XX a b (.sc v)=.sc v:=rfl
theorem Qc (v:List AV):XX a b (.tu v)=.jk:=rfl
theorem Qd (z:Bool) (es:List AV):XX a b (.vw z es)=.vw z es:=rfl
theorem Qe (es:List AV) (i o:Nat):XX a b (.vp es i o)=.vp es i o:=rfl
theorem Qf (f:Nat):XX a b (.fn f [])=.fn f []:=rfl
theorem Qg:XX a b .un=.un:=rfl
theorem Qh:XX a b .jk=.jk:=rfl
theorem Mq:Tz a b []=[]:=rfl
theorem J8 (x:AV) (l:List AV):Tz a b (x::l)=XX a b x::Tz a b l:=rfl
theorem TB {α:Type} {f:α→AV} (h:∀ x,XX a b (f x)=f x):∀ l:List α,Tz a b (l.map f)=l.map f
 | []=>rfl
 | x::l=>by rw [lx32,Tz,h,TB h l]
theorem Qi (l:Bool) (v t e:Nat) (es:List AV) (p:Bool):swB a b ⟨l,v,t,e,es,p⟩=⟨l,v,t,e,Tz a b es,p⟩:=rfl
theorem Mr:swM a b []=[]:=rfl
theorem J9 (x:Blk) (H:List Blk):swM a b (x::H)=swB a b x::swM a b H:=rfl
theorem Mt (H:List Blk):swH a b H=swM a b ((H.set a (H.getD b dead)).set b (H.getD a dead)):=rfl
theorem Nb:N7 []=true:=rfl
theorem Lv (x:Blk) (H:List Blk):N7 (x::H)=(GC x.els && N7 H):=rfl
theorem HD {α:Type} {f:α→AV} (h:∀ x,f x≠.jk):∀ l:List α,GC (l.map f)=true
 | []=>rfl
 | x::l=>by
  have:=h x
  rw [lx32]
  cases hx:f x <;> first | exact absurd hx this | exact HD h l
end
end Go.SX
namespace Go.SX
section
variable {P:Program} {E:Env} {n0:Nat} {rs:List ResultVar} {R:AV→St→Prop} {k:List Item}
end
section
variable {α:Type}
theorem st0 (a0 v:α) (l:List α):(a0::l).set 0 v=v::l:=rfl
theorem gd0 (a0 v:α) (l:List α):(a0::l).getD 0 v=a0:=rfl
theorem st1 (a0 a1 v:α) (l:List α):(a0::a1::l).set 1 v=a0::v::l:=rfl
theorem gd1 (a0 a1 v:α) (l:List α):(a0::a1::l).getD 1 v=a1:=rfl
theorem st2 (a0 a1 a2 v:α) (l:List α):(a0::a1::a2::l).set 2 v=a0::a1::v::l:=rfl
theorem gd2 (a0 a1 a2 v:α) (l:List α):(a0::a1::a2::l).getD 2 v=a2:=rfl
theorem st3 (a0 a1 a2 a3 v:α) (l:List α):(a0::a1::a2::a3::l).set 3 v=a0::a1::a2::v::l:=rfl
theorem gd3 (a0 a1 a2 a3 v:α) (l:List α):(a0::a1::a2::a3::l).getD 3 v=a3:=rfl
theorem st4 (a0 a1 a2 a3 a4 v:α) (l:List α):(a0::a1::a2::a3::a4::l).set 4 v=a0::a1::a2::a3::v::l:=rfl
theorem gd4 (a0 a1 a2 a3 a4 v:α) (l:List α):(a0::a1::a2::a3::a4::l).getD 4 v=a4:=rfl
theorem st5 (a0 a1 a2 a3 a4 a5 v:α) (l:List α):(a0::a1::a2::a3::a4::a5::l).set 5 v=a0::a1::a2::a3::a4::v::l:=rfl
theorem gd5 (a0 a1 a2 a3 a4 a5 v:α) (l:List α):(a0::a1::a2::a3::a4::a5::l).getD 5 v=a5:=rfl
theorem st6 (a0 a1 a2 a3 a4 a5 a6 v:α) (l:List α):(a0::a1::a2::a3::a4::a5::a6::l).set 6 v=a0::a1::a2::a3::a4::a5::v::l:=rfl
theorem gd6 (a0 a1 a2 a3 a4 a5 a6 v:α) (l:List α):(a0::a1::a2::a3::a4::a5::a6::l).getD 6 v=a6:=rfl
theorem st7 (a0 a1 a2 a3 a4 a5 a6 a7 v:α) (l:List α):(a0::a1::a2::a3::a4::a5::a6::a7::l).set 7 v=a0::a1::a2::a3::a4::a5::a6::v::l:=rfl
theorem gd7 (a0 a1 a2 a3 a4 a5 a6 a7 v:α) (l:List α):(a0::a1::a2::a3::a4::a5::a6::a7::l).getD 7 v=a7:=rfl
theorem st8 (a0 a1 a2 a3 a4 a5 a6 a7 a8 v:α) (l:List α):(a0::a1::a2::a3::a4::a5::a6::a7::a8::l).set 8 v=a0::a1::a2::a3::a4::a5::a6::a7::v::l:=rfl
theorem gd8 (a0 a1 a2 a3 a4 a5 a6 a7 a8 v:α) (l:List α):(a0::a1::a2::a3::a4::a5::a6::a7::a8::l).getD 8 v=a8:=rfl
theorem st9 (a0 a1 a2 a3 a4 a5 a6 a7 a8 a9 v:α) (l:List α):(a0::a1::a2::a3::a4::a5::a6::a7::a8::a9::l).set 9 v=a0::a1::a2::a3::a4::a5::a6::a7::a8::v::l:=rfl
theorem gd9 (a0 a1 a2 a3 a4 a5 a6 a7 a8 a9 v:α) (l:List α):(a0::a1::a2::a3::a4::a5::a6::a7::a8::a9::l).getD 9 v=a9:=rfl
theorem Ay8 (a0 a1 a2 a3 a4 a5 a6 a7 a8 a9 Gv v:α) (l:List α):(a0::a1::a2::a3::a4::a5::a6::a7::a8::a9::Gv::l).set 10 v=a0::a1::a2::a3::a4::a5::a6::a7::a8::a9::v::l:=rfl
theorem Ay9 (a0 a1 a2 a3 a4 a5 a6 a7 a8 a9 Gv v:α) (l:List α):(a0::a1::a2::a3::a4::a5::a6::a7::a8::a9::Gv::l).getD 10 v=Gv:=rfl
theorem Aya (a0 a1 a2 a3 a4 a5 a6 a7 a8 a9 Gv Ij v:α) (l:List α):(a0::a1::a2::a3::a4::a5::a6::a7::a8::a9::Gv::Ij::l).set 11 v=a0::a1::a2::a3::a4::a5::a6::a7::a8::a9::Gv::v::l:=rfl
theorem Ayb (a0 a1 a2 a3 a4 a5 a6 a7 a8 a9 Gv Ij v:α) (l:List α):(a0::a1::a2::a3::a4::a5::a6::a7::a8::a9::Gv::Ij::l).getD 11 v=Ij:=rfl
theorem Ayc (a0 a1 a2 a3 a4 a5 a6 a7 a8 a9 Gv Ij G0 v:α) (l:List α):(a0::a1::a2::a3::a4::a5::a6::a7::a8::a9::Gv::Ij::G0::l).set 12 v=a0::a1::a2::a3::a4::a5::a6::a7::a8::a9::Gv::Ij::v::l:=rfl
theorem Ayd (a0 a1 a2 a3 a4 a5 a6 a7 a8 a9 Gv Ij G0 v:α) (l:List α):(a0::a1::a2::a3::a4::a5::a6::a7::a8::a9::Gv::Ij::G0::l).getD 12 v=G0:=rfl
theorem Aye (a0 a1 a2 a3 a4 a5 a6 a7 a8 a9 Gv Ij G0 Ix v:α) (l:List α):(a0::a1::a2::a3::a4::a5::a6::a7::a8::a9::Gv::Ij::G0::Ix::l).set 13 v=a0::a1::a2::a3::a4::a5::a6::a7::a8::a9::Gv::Ij::G0::v::l:=rfl
theorem Ayf (a0 a1 a2 a3 a4 a5 a6 a7 a8 a9 Gv Ij G0 Ix v:α) (l:List α):(a0::a1::a2::a3::a4::a5::a6::a7::a8::a9::Gv::Ij::G0::Ix::l).getD 13 v=Ix:=rfl
theorem Ayg (a0 a1 a2 a3 a4 a5 a6 a7 a8 a9 Gv Ij G0 Ix a14 v:α) (l:List α):(a0::a1::a2::a3::a4::a5::a6::a7::a8::a9::Gv::Ij::G0::Ix::a14::l).set 14 v=a0::a1::a2::a3::a4::a5::a6::a7::a8::a9::Gv::Ij::G0::Ix::v::l:=rfl
theorem Ayh (a0 a1 a2 a3 a4 a5 a6 a7 a8 a9 Gv Ij G0 Ix a14 v:α) (l:List α):(a0::a1::a2::a3::a4::a5::a6::a7::a8::a9::Gv::Ij::G0::Ix::a14::l).getD 14 v=a14:=rfl
theorem Ayi (a0 a1 a2 a3 a4 a5 a6 a7 a8 a9 Gv Ij G0 Ix a14 a15 v:α) (l:List α):(a0::a1::a2::a3::a4::a5::a6::a7::a8::a9::Gv::Ij::G0::Ix::a14::a15::l).set 15 v=a0::a1::a2::a3::a4::a5::a6::a7::a8::a9::Gv::Ij::G0::Ix::a14::v::l:=rfl
theorem Ayj (a0 a1 a2 a3 a4 a5 a6 a7 a8 a9 Gv Ij G0 Ix a14 a15 v:α) (l:List α):(a0::a1::a2::a3::a4::a5::a6::a7::a8::a9::Gv::Ij::G0::Ix::a14::a15::l).getD 15 v=a15:=rfl
theorem Ayk (a0 a1 a2 a3 a4 a5 a6 a7 a8 a9 Gv Ij G0 Ix a14 a15 v:α) (l:List α) (n:Nat):(a0::a1::a2::a3::a4::a5::a6::a7::a8::a9::Gv::Ij::G0::Ix::a14::a15::l).set (n+16) v=a0::a1::a2::a3::a4::a5::a6::a7::a8::a9::Gv::Ij::G0::Ix::a14::a15::l.set n v:=rfl
theorem Ayl (a0 a1 a2 a3 a4 a5 a6 a7 a8 a9 Gv Ij G0 Ix a14 a15 v:α) (l:List α) (n:Nat):(a0::a1::a2::a3::a4::a5::a6::a7::a8::a9::Gv::Ij::G0::Ix::a14::a15::l).getD (n+16) v=l.getD n v:=rfl
end
theorem AW:type_of% (aI (aI (b8 (b8 (b8 @Afn @Afo @UW @Zl @Afp @UX @Pl @Zm) (b8 @RN @Zn @UY @Pm @NP @KY @Zo @UZ) (b8 @RO @Zp @Zq @U0 @RQ @Aq4 @Aq5 @RR) (b8 @U1 @Po @Pp @NQ @RS @Pq @Pr @Zr) (b8 @Zs @Aq6 @Zt @Afq @U2 @Zu @Afr @U4) (b8 @Zv @Zw @RT @Zx @RU @U5 @Zy @RV) (b8 @RW @Zz @RX @ZA @RY @NR @K1 @U6) (b8 @Pu @ZB @RZ @Pv @L3 @NS @K2 @U7)) (b8 (b8 @L4 @JW @L5 @JX @U8 @Pw @Px @U9) (b8 @Py @Aft @Va @Afu @Vb @Afv @Vd @Afw) (b8 @K3 @Ve @L6 @R0 @Vf @Afx @ZC @Afy) (b8 @ZD @Afz @Ag0 @R3 @NT @R4 @Pz @R5) (b8 @Vg @Vh @Vi @Vj @Vk @Vl @R6 @R7) (b8 @Vm @Vo @Vp @Vq @NU @I9 @ZF @ZG) (b8 @ZH @NV @Vr @Vs @Vt @Vu @Tl @Tm) (b8 @ZI @Tn @Ts @Tt @Tu @Tv @Tw @ZL)) (b8 (b8 @Ag2 @PA @R8 @Ag3 @Ag4 @Fm @Ow @JY) (b8 @Vv @Vw @Vx @Ag5 @Ag6 @Vy @K4 @L8) (b8 @ZO @R9 @ZP @Vz @ZQ @PB @PC @VA) (b8 @ZR @NW @L9 @Ma @VB @VC @VD @Ag7) (b8 @Ag8 @Ag9 @Aga @VE @VF @K5 @Mb @Sa) (b8 @ZS @Sb @ZV @VG @VH @VI @ZW @PD) (b8 @PE @VJ @ZY @NY @Mc @Md @VK @ZZ) (b8 @Agb @Agc @Agd @Age @VM @VN @K6 @Me)) (b8 (b8 @Sc @VO @Sd @VP @PF @U3 @ZJ @ZK) (b8 @ZM @ZN @Pn @Ww @Su @Se @PG @Sf) (b8 @PI @J0 @VQ @Agg @Agh @VS @VT @Z0) (b8 @Z1 @Z2 @Sh @PL @RJ @Pg @Afh @Afi) (b8 @Aq3 @UR @RK @US @RL @UT @NK @RM) (b8 @NL @Ph @Pj @NM @NN @L2 @Z3 @VU) (b8 @Si @PM @VV @Agl @VW @Sj @PN @PO) (b8 @CI @Cn @Z4 @Z5 @Z6 @Z7 @Sk @PQ)) (b8 @st0 @st1 @st2 @st3 @st4 @st5 @st6 @st7) (b8 @st8 @st9 @Ay8 @Aya @Ayc @Aye @Ayg @Ayi) (b8 @Ayk @gd0 @gd1 @gd2 @gd3 @gd4 @gd5 @gd6) (b8 @gd7 @gd8 @gd9 @Ay9 @Ayb @Ayd @Ayf @Ayh)) @Ayj) @Ayl):=aI (aI (b8 (b8 (b8 @Afn @Afo @UW @Zl @Afp @UX @Pl @Zm) (b8 @RN @Zn @UY @Pm @NP @KY @Zo @UZ) (b8 @RO @Zp @Zq @U0 @RQ @Aq4 @Aq5 @RR) (b8 @U1 @Po @Pp @NQ @RS @Pq @Pr @Zr) (b8 @Zs @Aq6 @Zt @Afq @U2 @Zu @Afr @U4) (b8 @Zv @Zw @RT @Zx @RU @U5 @Zy @RV) (b8 @RW @Zz @RX @ZA @RY @NR @K1 @U6) (b8 @Pu @ZB @RZ @Pv @L3 @NS @K2 @U7)) (b8 (b8 @L4 @JW @L5 @JX @U8 @Pw @Px @U9) (b8 @Py @Aft @Va @Afu @Vb @Afv @Vd @Afw) (b8 @K3 @Ve @L6 @R0 @Vf @Afx @ZC @Afy) (b8 @ZD @Afz @Ag0 @R3 @NT @R4 @Pz @R5) (b8 @Vg @Vh @Vi @Vj @Vk @Vl @R6 @R7) (b8 @Vm @Vo @Vp @Vq @NU @I9 @ZF @ZG) (b8 @ZH @NV @Vr @Vs @Vt @Vu @Tl @Tm) (b8 @ZI @Tn @Ts @Tt @Tu @Tv @Tw @ZL)) (b8 (b8 @Ag2 @PA @R8 @Ag3 @Ag4 @Fm @Ow @JY) (b8 @Vv @Vw @Vx @Ag5 @Ag6 @Vy @K4 @L8) (b8 @ZO @R9 @ZP @Vz @ZQ @PB @PC @VA) (b8 @ZR @NW @L9 @Ma @VB @VC @VD @Ag7) (b8 @Ag8 @Ag9 @Aga @VE @VF @K5 @Mb @Sa) (b8 @ZS @Sb @ZV @VG @VH @VI @ZW @PD) (b8 @PE @VJ @ZY @NY @Mc @Md @VK @ZZ) (b8 @Agb @Agc @Agd @Age @VM @VN @K6 @Me)) (b8 (b8 @Sc @VO @Sd @VP @PF @U3 @ZJ @ZK) (b8 @ZM @ZN @Pn @Ww @Su @Se @PG @Sf) (b8 @PI @J0 @VQ @Agg @Agh @VS @VT @Z0) (b8 @Z1 @Z2 @Sh @PL @RJ @Pg @Afh @Afi) (b8 @Aq3 @UR @RK @US @RL @UT @NK @RM) (b8 @NL @Ph @Pj @NM @NN @L2 @Z3 @VU) (b8 @Si @PM @VV @Agl @VW @Sj @PN @PO) (b8 @CI @Cn @Z4 @Z5 @Z6 @Z7 @Sk @PQ)) (b8 @st0 @st1 @st2 @st3 @st4 @st5 @st6 @st7) (b8 @st8 @st9 @Ay8 @Aya @Ayc @Aye @Ayg @Ayi) (b8 @Ayk @gd0 @gd1 @gd2 @gd3 @gd4 @gd5 @gd6) (b8 @gd7 @gd8 @gd9 @Ay9 @Ayb @Ayd @Ayf @Ayh)) @Ayj) @Ayl
theorem CO:type_of% (aI (aI (aI (b8 (b8 @N1 @V1 @Agn @V2 @V3 @V4 @Jy @Ago) (b8 @V5 @V6 @Agp @IE @Agq @V7 @V8 @V9) (b8 @Mi @Agr @Wa @Wb @Aa4 @Ags @Wc @N3) (b8 @Wg @Wh @Agv @Sm @Wi @Aa6 @Wj @Sn) (b8 @So @Wk @Wl @Agw @Aa0 @Aa1 @Aa2 @Aa3) (b8 @Sr @Ss @Sp @Sq @N5 @PY @PZ @At5) (b8 @Ay3 @Ay4 @Ay5 @Sg @PJ @PX @Agy @Agz) (b8 @Ah0 @Wo @Wp @Wq @Wr @Ws @J4 @N4)) (b8 (b8 @Agx @Wt @Wu @Ah1 @Ah2 @VX @VY @VZ) (b8 @Z8 @Aq9 @Aqa @V0 @Wm @Wx @P1 @Wv) (b8 @N2 @Agt @Wd @We @Agu @Wf @Ky @Ce) (b8 @Sx @XV @J6 @Mn @Aa7 @Aab @Sw @Aa5) (b8 @Wy @Ah4 @Ah5 @Ah6 @Ah7 @Aa8 @Wz @K7) @WD @P4 @P5)) @WC) @Sy):=aI (aI (aI (b8 (b8 @N1 @V1 @Agn @V2 @V3 @V4 @Jy @Ago) (b8 @V5 @V6 @Agp @IE @Agq @V7 @V8 @V9) (b8 @Mi @Agr @Wa @Wb @Aa4 @Ags @Wc @N3) (b8 @Wg @Wh @Agv @Sm @Wi @Aa6 @Wj @Sn) (b8 @So @Wk @Wl @Agw @Aa0 @Aa1 @Aa2 @Aa3) (b8 @Sr @Ss @Sp @Sq @N5 @PY @PZ @At5) (b8 @Ay3 @Ay4 @Ay5 @Sg @PJ @PX @Agy @Agz) (b8 @Ah0 @Wo @Wp @Wq @Wr @Ws @J4 @N4)) (b8 (b8 @Agx @Wt @Wu @Ah1 @Ah2 @VX @VY @VZ) (b8 @Z8 @Aq9 @Aqa @V0 @Wm @Wx @P1 @Wv) (b8 @N2 @Agt @Wd @We @Agu @Wf @Ky @Ce) (b8 @Sx @XV @J6 @Mn @Aa7 @Aab @Sw @Aa5) (b8 @Wy @Ah4 @Ah5 @Ah6 @Ah7 @Aa8 @Wz @K7) @WD @P4 @P5)) @WC) @Sy
theorem AX:type_of% (aI (b8 (b8 @lx45.{0} @lx54.{0} @lx39.{0} @List.getElem?_nil.{0} @lx53.{0} @lx63.{0} (@lx32.{0,0}) (@lx47.{0,0})) (b8 @lx64.{0} @lx91.{0} @lx66.{0} @lx73.{0} @List.drop_succ_cons.{0} @lx42.{0} @lx92.{0} @List.take_nil.{0}) (b8 @List.drop_nil.{0} (@lx17.{0,0}) (@lx34.{0,0}) (@Option.map_none.{0,0}) @Dt @not_false_eq_true @Du @Az) (b8 @and_self @Gs @Gt @beq_self_eq_true.{0} @Bool.and_self @LO @JM @decide_true) (b8 @decide_false @B4 @Aw @BT @Bool.true_eq_false @true_or @or_true @E8) (b8 @false_or (@lx58.{0,0}) @List.replicate_zero.{0} @and_false @false_and @Nat.sub_zero @OV @Int.cast_ofNat_Int) (b8 @Ha @Int.zero_le_ofNat @MS @bne_self_eq_false.{0} @I0 @Ii @JN @JO) @Hr) @Lg):=aI (b8 (b8 @lx45.{0} @lx54.{0} @lx39.{0} @List.getElem?_nil.{0} @lx53.{0} @lx63.{0} (@lx32.{0,0}) (@lx47.{0,0})) (b8 @lx64.{0} @lx91.{0} @lx66.{0} @lx73.{0} @List.drop_succ_cons.{0} @lx42.{0} @lx92.{0} @List.take_nil.{0}) (b8 @List.drop_nil.{0} (@lx17.{0,0}) (@lx34.{0,0}) (@Option.map_none.{0,0}) @Dt @not_false_eq_true @Du @Az) (b8 @and_self @Gs @Gt @beq_self_eq_true.{0} @Bool.and_self @LO @JM @decide_true) (b8 @decide_false @B4 @Aw @BT @Bool.true_eq_false @true_or @or_true @E8) (b8 @false_or (@lx58.{0,0}) @List.replicate_zero.{0} @and_false @false_and @Nat.sub_zero @OV @Int.cast_ofNat_Int) (b8 @Ha @Int.zero_le_ofNat @MS @bne_self_eq_false.{0} @I0 @Ii @JN @JO) @Hr) @Lg
end Go.SX
