/-
  Lemmas towards ModesHandles (joined texts: SXN, SXO, SXQ).
  Conditions: none.
-/
import Derived.Test.YtdjpkhjaibdogaaGreatM01
import Derived.Test.YtdjpkhjaibdogaaGreatM13
set_option linter.unusedSimpArgs false
set_option linter.unusedVariables false
set_option maxRecDepth 100000
namespace Go.SX
open Go.RowKit (Below)
mutual
def AV.fresh:AV→Bool
 | .sc _ | .un | .jk | .pt .. | .sl ..=>true
 | .vw _ es=>es.isEmpty
 | .ag cs | .tu cs=>Cc cs
 | _=>false
def Cc:List AV→Bool
 | []=>true
 | a::r=>a.fresh && Cc r
end
mutual
def AV.freshIn (H:List Blk):AV→Bool
 | .sl id ver _ _=>match AO H id ver with | some B=>Cc B.els | none=>true
 | .pt id ver _ _=>match AO H id ver with | some B=>Cc B.els | none=>true
 | .ag cs | .tu cs=>C5 H cs
 | .vw _ es=>es.isEmpty
 | .sc _ | .un | .jk=>true
 | _=>false
def C5 (H:List Blk):List AV→Bool
 | []=>true
 | a::r=>a.freshIn H && C5 H r
end
mutual
theorem M6 {w X Y o}:∀ (a:AV) {v:Value},a.fresh=true→VR w X o a v→VR w Y none a v
 | .sc x,v,_,h=>by cases h with | sc h=>exact .sc h
 | .un,v,_,h=>by cases h; exact .un
 | .jk,v,_,_=>.jk
 | .pt ..,v,_,h=>by cases h with | pt h1 h2=>exact .pt h1 (fun _ e=>by cases e)
 | .sl ..,v,_,h=>by cases h with | sl h1 h2=>exact .sl h1 (fun _ e=>by cases e)
 | .vw z [],v,_,h=>by
  cases h with
  | vw0 hz hm=>exact .vw0 hz hm
  | vw1 f hne=>exact absurd rfl hne
 | .vw z (_::_),v,hf,_=>by simp [AV.fresh] at hf
 | .ag cs,v,hf,h=>by
  cases h with
  | ag hl h1 h2=>
   have:=Ls (Y:=Y) cs (by simpa [AV.fresh] using hf) ⟨hl,h1⟩
   exact .ag this.1 this.2 h2
 | .tu cs,v,hf,h=>by
  cases h with
  | tu hl h1=>
   have:=Ls (Y:=Y) cs (by simpa [AV.fresh] using hf) ⟨hl,h1⟩
   exact .tu this.1 this.2
 | .vp ..,v,hf,_=>by simp [AV.fresh] at hf
 | .fn ..,v,hf,_=>by simp [AV.fresh] at hf
theorem Ls {w X Y o}:∀ (as:List AV) {vs:List Value},Cc as=true→VL w X o as vs→VL w Y none as vs
 | [],vs,_,h=>by rw [h.unnil]; exact .nil
 | a::r,vs,hf,h=>by
  obtain ⟨v,vs',rfl,h1,h2⟩:=h.uncons
  simp only [Cc,AT] at hf
  exact .cons (M6 a hf.1 h1) (Ls r hf.2 h2)
end
theorem Ja:∀ {as:List AV},Cc as=true→∀ a ∈ as,a.fresh=true
 | [],_,a,h=>by cases h
 | b::r,h,a,ha=>by
  simp only [Cc,AT] at h
  rcases lx59.1 ha with rfl | ha
  ·exact h.1
  ·exact Ja h.2 a ha
theorem N6 {e:AV} (h:e.fresh=true):∀ a ∈ e.cells,a.fresh=true:=by
 intro a ha
 cases e with
 | ag cs=>
  have h':Cc cs=true:=by simpa [AV.fresh] using h
  exact Ja h' a ha
 | _=>simp only [AV.cells,lx70] at ha; subst ha; exact h
mutual
theorem Lt {w X Y hc} (hr:HR w X hc) (ho:∀ b,Y7 hc b→¬ Y b):∀ (a:AV) {v:Value},a.freshIn hc.H=true→VR w X (some hc) a v→VR w Y (some Cj) (Ao hc.H a) v
 | .sc x,v,_,h=>by cases h with | sc h=>exact .sc h
 | .un,v,_,h=>by cases h; exact .un
 | .jk,v,_,_=>.jk
 | .vw z [],v,_,h=>by
  cases h with
  | vw0 hz hm=>exact .vw0 hz hm
  | vw1 f hne=>exact absurd rfl hne
 | .vw z (_::_),v,hf,_=>by simp [AV.freshIn] at hf
 | .vp ..,v,hf,_=>by simp [AV.freshIn] at hf
 | .fn ..,v,hf,_=>by simp [AV.freshIn] at hf
 | .ag cs,v,hf,h=>by
  cases h with
  | ag hl h1 h2=>
   have:=J5 hr ho cs (by simpa [AV.freshIn] using hf) ⟨hl,h1⟩
   exact .ag this.1 this.2 h2
 | .tu cs,v,hf,h=>by
  cases h with
  | tu hl h1=>
   have:=J5 hr ho cs (by simpa [AV.freshIn] using hf) ⟨hl,h1⟩
   exact .tu this.1 this.2
 | .pt id ver i off,v,hf,h=>by
  simp only [Ao]
  split
  ·rename_i B hl
   simp only [AV.freshIn,hl] at hf
   obtain ⟨b,base,h1,h2,h3,⟨cs,h4⟩,h5⟩:=Hc hr h hl
   obtain ⟨g1,g2,g3⟩:=Br hl
   subst h2
   refine .vp (fun i j=>(w.cell? ⟨b,base+i * B.esz+j,none⟩).getD undef) (ho b ⟨id,B,base,g1,g2,h1⟩) (hr.lt b h3) ?_ ?_ ?_
   ·exact Aep
   ·intro i j hi hj
    exact Akf
   ·intro i e j a he ha
    obtain ⟨q1,q2⟩:=h5 i e he
    obtain ⟨c,e1,e2,e3⟩:=q2 j a ha
    rw [e1]
    exact M6 a (N6 (Ja hf e (lx25 he)) a (lx25 ha)) e3
  ·exact .jk
 | .sl id ver lo len,v,hf,h=>by
  simp only [Ao]
  split
  ·rename_i B hl
   simp only [AV.freshIn,hl] at hf
   obtain ⟨g1,g2,g3⟩:=Br hl
   cases h with
   | sl q1 q2=>
    obtain ⟨r1,r2⟩:=q2 _ rfl
    obtain ⟨r3,r4⟩:=r2 B g1 g2 g3
    have hlen:((B.els.drop lo).take len).length=len:=E9
    have hB:=hr.blk id B g1 g2
    rcases r4 with ⟨r4,p,hp⟩ | ⟨b,base,cap,nn,hloc,k1,k2,k3,k4,k5⟩
    ·exact Aem
    ·have hB2:=hB.2.2
     rw [hloc] at hB2
     obtain ⟨m1,⟨cs,m2⟩,m3⟩:=hB2
     subst k1
     by_cases h0:len=0
     ·exact Aen
     ·have hne:(B.els.drop lo).take len≠[]:=by intro e; rw [e] at hlen; simp at hlen; omega
      have hget:∀ i e,((B.els.drop lo).take len)[i]?=some e→B.els[lo+i]?=some e:=by
       intro i e he
       rw [lx19] at he
       split at he
       ·rwa [lx20] at he
       ·cases he
      have:=VR.vw1 (w:=w) (X:=Y) (o:=some Cj) (z:=false) (es:=(B.els.drop lo).take len) (b:=b) (base:=base+lo * B.esz) (cap:=cap) (esz:=B.esz)
       (fun i j=>(w.cell? ⟨b,base+lo * B.esz+i * B.esz+j,none⟩).getD undef) hne (ho b ⟨id,B,base,g1,g2,hloc⟩) (hr.lt b m1) (by rw [hlen]; exact k2) (fun h=>by cases h) k3
       (fun e he=>by
        obtain ⟨i,hi⟩:=lx44.1 he
        exact (m3 _ e (hget i e hi)).1)
       (fun i j hi hj=>by
        have he:((B.els.drop lo).take len)[i]?=some ((B.els.drop lo).take len)[i]:=lx51 hi
        obtain ⟨q1,q2⟩:=m3 _ _ (hget i _ he)
        obtain ⟨c,e1,e2,e3⟩:=q2 j (((B.els.drop lo).take len)[i].cells[j]'(by omega)) (by simp)
        rw [Hb,←G2] at e1
        rw [e1]
        exact ⟨rfl,e2⟩)
       (fun i e j a he ha=>by
        obtain ⟨q1,q2⟩:=m3 _ e (hget i e he)
        obtain ⟨c,e1,e2,e3⟩:=q2 j a ha
        rw [Hb,←G2] at e1
        rw [e1]
        exact M6 a (N6 (Ja hf e (lx25 (hget i e he))) a (lx25 ha)) e3)
      rw [hlen] at this
      exact this
  ·exact .jk
theorem J5 {w X Y hc} (hr:HR w X hc) (ho:∀ b,Y7 hc b→¬ Y b):∀ (as:List AV) {vs:List Value},C5 hc.H as=true→VL w X (some hc) as vs→VL w Y (some Cj) (Al hc.H as) vs
 | [],vs,_,h=>by rw [h.unnil]; exact .nil
 | a::r,vs,hf,h=>by
  obtain ⟨v,vs',rfl,h1,h2⟩:=h.uncons
  simp only [C5,AT] at hf
  exact .cons (Lt hr ho a hf.1 h1) (J5 hr ho r hf.2 h2)
end
def Hz (P:Program) (f:FuncId) (args:List AV) (r:AV):Prop:=
 IA P f∧r.noref=true∧∀ (w:World) (cargs:Array Value),VL w Q6 (some Cj) args cargs.toList→
  Calls P f cargs w fun e w'=>∃ c,e=.returned c∧VR w' (fun b=>b < w.heap.size) (some Cj) r c∧Below w.heap.size w w'
def FOk (P:Program) (g:Nat) (F:List AV→Option AV):Prop:=∀ args r,F args=some r→Hz P g args r
inductive FOks (P:Program):List (Nat × (List AV→Option AV))→Prop
 | nil:FOks P []
 | cons {g F r} (h:FOk P g F) (t:FOks P r):FOks P ((g,F)::r)
theorem Lu {P:Program} {g:Nat} {α:Type} {q:α→Prop} {enc:α→List AV} {out:α→AV} (h:∀ x,q x→Hz P g (enc x) (out x)):FOk P g (Er q enc out):=by
 exact Aet
theorem P0 {P:Program} {f:FuncId} {args:List AV} {r:AV} {H:List Blk} {cnt:Nat} (hv:Hz P f (Al H args) r):HSpec P f args H cnt r H cnt:=by
 obtain ⟨h1,h2,h3⟩:=hv
 refine ⟨h1,fun w X loc cargs hr hl=>?_⟩
 refine (h3 w cargs (Gc (hc:=⟨loc,H,cnt⟩) hr args hl)).mono ?_
 rintro e w' ⟨c,rfl,g1,g2⟩
 exact ⟨X,loc,c,rfl,hr.below g2,Gw _ h2 (g1.antiX (fun b hb=>hr.lt b hb)).close,Ep g2 X _⟩
def hcF (H:List Blk) (cnt:Nat):Option AV→Option (AV × List Blk × Nat)
 | some r=>some (r,H,cnt)
 | none=>none
theorem Wv (H:List Blk) (cnt:Nat) (r:AV):hcF H cnt (some r)=some (r,H,cnt):=rfl
def XT (l lf:List (Nat × (List AV→Option AV))):Env:=⟨DN l,pl l,fun g args H cnt=>hcF H cnt (pl lf g (Al H args)),false,fun _=>none,fun _=>false⟩
theorem Ww (l lf:List (Nat × (List AV→Option AV))):(XT l lf).lit=false:=rfl
theorem Su (l lf:List (Nat × (List AV→Option AV))) (i:Nat):(XT l lf).perm i=none:=rfl
theorem Aa7 (l lf:List (Nat × (List AV→Option AV))) (g:Nat):(XT l lf).hb g=false:=rfl
theorem Wx (l lf:List (Nat × (List AV→Option AV))) (f:Nat):(XT l lf).isP f=DN l f:=rfl
theorem P1 (l lf:List (Nat × (List AV→Option AV))) (f:Nat) (a:List AV):(XT l lf).pcall f a=pl l f a:=rfl
theorem Ar {P:Program} {l lf:List (Nat × (List AV→Option AV))} (h:POks P l) (hf:FOks P lf):EnvOk P (XT l lf) where
 p:=(Mf h).p
 h f args H cnt r H' cnt' he:=by
  simp only [XT] at he
  cases hp:pl lf f (Al H args) with
  | none=>rw [hp] at he; simp [hcF] at he
  | some q=>
   rw [hp] at he
   simp only [hcF,lx16,lx40] at he
   obtain ⟨rfl,rfl,rfl⟩:=he
   refine P0 ?_
   induction hf with
   | nil=>simp [pl] at hp
   | @cons g F l h t ih=>
    simp only [pl] at hp
    split at hp
    ·rename_i hh; subst hh; exact h _ q hp
    ·exact ih hp
theorem Ei {α:Type} {f:α→AV} (h:∀ x,(f x).fresh=true):∀ l:List α,Cc (l.map f)=true
 | []=>by simp [Cc]
 | x::r=>by simp [Cc,h x,Ei h r]
end Go.SX
namespace Go.SX
section
variable (d:Option Nat) (ty:TypeId) (pos:String) (af:Array Edge) (g:Option (Nat × Bool)) (X Y:Option St)
theorem Co vx:F7 true ⟨d,.move vx,ty,pos,af,g⟩ X Y=X:=rfl
theorem BU vx:F7 true ⟨d,.assign vx,ty,pos,af,g⟩ X Y=X:=rfl
theorem Df va vb vc:F7 true ⟨d,.pick va vb vc,ty,pos,af,g⟩ X Y=X:=rfl
theorem CJ ve:F7 true ⟨d,.alloc ve,ty,pos,af,g⟩ X Y=X:=rfl
theorem DD ve vv:F7 true ⟨d,.box ve vv,ty,pos,af,g⟩ X Y=X:=rfl
theorem Cu vt vp:F7 true ⟨d,.build vt vp,ty,pos,af,g⟩ X Y=X:=rfl
theorem Dn va vb vc vd:F7 true ⟨d,.insert va vb vc vd,ty,pos,af,g⟩ X Y=X:=rfl
theorem Cw vt vx:F7 true ⟨d,.load vt vx,ty,pos,af,g⟩ X Y=X:=rfl
theorem Cm vt va vv:F7 true ⟨d,.store vt va vv,ty,pos,af,g⟩ X Y=X:=rfl
theorem DQ vg:F7 true ⟨d,.ready vg,ty,pos,af,g⟩ X Y=X:=rfl
theorem DR vg:F7 true ⟨d,.waits vg,ty,pos,af,g⟩ X Y=X:=rfl
theorem Bu vx:F7 true ⟨d,.nilCheck vx,ty,pos,af,g⟩ X Y=X:=rfl
theorem B7 vo vt vx vy vu:F7 true ⟨d,.binOp vo vt vx vy vu,ty,pos,af,g⟩ X Y=X:=rfl
theorem CR vo vt vx:F7 true ⟨d,.unOp vo vt vx,ty,pos,af,g⟩ X Y=X:=rfl
theorem Cg vs vt vx:F7 true ⟨d,.convert vs vt vx,ty,pos,af,g⟩ X Y=X:=rfl
theorem AS vd vx:F7 true ⟨d,.sliceToArrayPointer vd vx,ty,pos,af,g⟩ X Y=X:=rfl
theorem Bs vt vx:F7 true ⟨d,.makeInterface vt vx,ty,pos,af,g⟩ X Y=X:=rfl
theorem BX vf va vb:F7 true ⟨d,.makeFunc vf va vb,ty,pos,af,g⟩ X Y=X:=rfl
theorem CY vt vr:F7 true ⟨d,.makeMap vt vr,ty,pos,af,g⟩ X Y=X:=rfl
theorem CM vt vs:F7 true ⟨d,.makeChan vt vs,ty,pos,af,g⟩ X Y=X:=rfl
theorem Dw vt vx va vb vc:F7 true ⟨d,.slice vt vx va vb vc,ty,pos,af,g⟩ X Y=X:=rfl
theorem Bh vt vx vf:F7 true ⟨d,.fieldAddr vt vx vf,ty,pos,af,g⟩ X Y=X:=rfl
theorem DU vt vx vf:F7 true ⟨d,.field vt vx vf,ty,pos,af,g⟩ X Y=X:=rfl
theorem Bk vt vx vi:F7 true ⟨d,.indexAddr vt vx vi,ty,pos,af,g⟩ X Y=X:=rfl
theorem DV vt vx vi:F7 true ⟨d,.index vt vx vi,ty,pos,af,g⟩ X Y=X:=rfl
theorem Dp vt vx vi vc:F7 true ⟨d,.lookup vt vx vi vc,ty,pos,af,g⟩ X Y=X:=rfl
theorem Cv vt va vb vc:F7 true ⟨d,.mapUpdate vt va vb vc,ty,pos,af,g⟩ X Y=X:=rfl
theorem CN vt va vb:F7 true ⟨d,.mapEntry vt va vb,ty,pos,af,g⟩ X Y=X:=rfl
theorem Ch vt va vb vc:F7 true ⟨d,.entryStore vt va vb vc,ty,pos,af,g⟩ X Y=X:=rfl
theorem DW vt vx:F7 true ⟨d,.range vt vx,ty,pos,af,g⟩ X Y=X:=rfl
theorem Es vi vs:F7 true ⟨d,.next vi vs,ty,pos,af,g⟩ X Y=X:=rfl
theorem DY vi:F7 true ⟨d,.entry vi,ty,pos,af,g⟩ X Y=X:=rfl
theorem Ci vx vt vu vc:F7 true ⟨d,.typeAssert vx vt vu vc,ty,pos,af,g⟩ X Y=X:=rfl
theorem BZ vt vi:F7 true ⟨d,.extract vt vi,ty,pos,af,g⟩ X Y=X:=rfl
theorem Cp vc:F7 true ⟨d,.call vc,ty,pos,af,g⟩ X Y=X:=rfl
theorem Hg vc:F7 true ⟨d,.go vc,ty,pos,af,g⟩ X Y=X:=rfl
theorem DZ vc:F7 true ⟨d,.defer vc,ty,pos,af,g⟩ X Y=X:=rfl
theorem D0 vx:F7 true ⟨d,.panic vx,ty,pos,af,g⟩ X Y=X:=rfl
theorem Et vc vx:F7 true ⟨d,.send vc vx,ty,pos,af,g⟩ X Y=X:=rfl
theorem Eu vt vc vo:F7 true ⟨d,.recv vt vc vo,ty,pos,af,g⟩ X Y=X:=rfl
theorem Dq vc vb:F7 true ⟨d,.select vc vb,ty,pos,af,g⟩ X Y=X:=rfl
theorem Jb (t:TypeId) (n:Nat) (ps:Array (Nat × Operand)) (h:Nat × Bool):F7 true ⟨d,.buildSlice t n ps,ty,pos,af,some h⟩ X Y=X:=rfl
theorem Jc (t:TypeId) (a b:Operand) (h:Nat × Bool):F7 true ⟨d,.makeSlice t a b,ty,pos,af,some h⟩ X Y=X:=rfl
end
end Go.SX
namespace Go.SX
open Go.RowKit (Below)
theorem CT:∀ T:List AV,NZ T T
 | []=>trivial
 | _::T=>⟨.inr rfl,CT T⟩
theorem AM:∀ H:List Blk,JZ H H
 | []=>trivial
 | _::H=>⟨.inr rfl,AM H⟩
theorem Sv (D:List Blk):∀ H:List Blk,JZ (H++D) H
 | []=>by cases D <;> trivial
 | _::H=>⟨.inr rfl,Sv D H⟩
theorem Sw (H:List Blk) (v:Value):Cl H (.sc v)=H:=rfl
def dead:Blk:=⟨false,0,0,0,[],false⟩
theorem K7 {P:Program} {s:St} (f:FuncId) (caps:Array Operand):AH P s (.makeFunc (.func f) #[] caps)=some (.fn f (caps.toList.map (ev s.T))):=by simp [AH]
def K8 (a b i:Nat):Nat:=if i=a then b else if i=b then a else i
theorem Kw (a b i:Nat):K8 a b (K8 a b i)=i:=by
 unfold K8
 by_cases h1:i=a
 ·subst h1; by_cases h2:b=i
  ·simp [h2]
  ·simp [h2]
 ·by_cases h2:i=b
  ·subst h2; simp [h1]
  ·simp [h1,h2]
inductive Ren (a b:Nat):AV→AV→Prop
 | same {v:AV} (h:v.noref=true):Ren a b v v
 | jk {v:AV}:Ren a b v .jk
 | pt (id ver i off:Nat):Ren a b (.pt id ver i off) (.pt (K8 a b id) ver i off)
 | sl (id ver lo len:Nat):Ren a b (.sl id ver lo len) (.sl (K8 a b id) ver lo len)
 | ag {cs ds:List AV} (hl:cs.length=ds.length) (h:∀ (i:Nat) (c d:AV),cs[i]?=some c→ds[i]?=some d→Ren a b c d):Ren a b (.ag cs) (.ag ds)
def Acr (a b:Nat):List AV→List AV→Prop
 | [],[]=>True
 | x::l,y::m=>Ren a b x y∧Acr a b l m
 | _,_=>False
theorem IF {a b:Nat}:∀ {l m:List AV},Acr a b l m→l.length=m.length∧∀ (i:Nat) (c d:AV),l[i]?=some c→m[i]?=some d→Ren a b c d
 | [],[],_=>⟨rfl,fun i c d h=>by simp at h⟩
 | x::l,y::m,h=>by
  obtain ⟨h1,h2⟩:=IF h.2
  refine ⟨by simp [h1],fun i c d hc hd=>?_⟩
  cases i with
  | zero=>simp at hc hd; subst hc; subst hd; exact h.1
  | succ i=>simp at hc hd; exact h2 i c d hc hd
 | [],_::_,h=>h.elim
 | _::_,[],h=>h.elim
theorem Acs {a b:Nat} {x y:AV} (h:Ren a b x y) (hj:y≠.jk):x.cells.length=y.cells.length∧∀ (i:Nat) (c d:AV),x.cells[i]?=some c→y.cells[i]?=some d→Ren a b c d:=by
 cases h with
 | same h=>
  refine ⟨rfl,fun i c d hc hd=>?_⟩
  rw [hc] at hd; cases hd
  refine .same ?_
  cases x with
  | ag cs=>
   simp only [AV.cells] at hc
   have h':norefs cs=true:=by simpa [AV.noref] using h
   have:∀ {l:List AV},norefs l=true→∀ e ∈ l,e.noref=true:=by
    intro l hl e he
    induction l with
    | nil=>cases he
    | cons z l ih=>
     simp only [norefs,AT] at hl
     rcases lx59.1 he with rfl | he
     ·exact hl.1
     ·exact ih hl.2 he
   exact this h' c (lx25 hc)
  | _=>
   simp only [AV.cells] at hc
   have:=lx25 hc
   rw [lx70] at this
   subst this; exact h
 | jk=>exact absurd rfl hj
 | pt id ver k off=>
  refine ⟨rfl,fun i c d hc hd=>?_⟩
  cases i with
  | zero=>simp [AV.cells] at hc hd; subst hc; subst hd; exact .pt ..
  | succ i=>simp [AV.cells] at hc
 | sl id ver lo len=>
  refine ⟨rfl,fun i c d hc hd=>?_⟩
  cases i with
  | zero=>simp [AV.cells] at hc hd; subst hc; subst hd; exact .sl ..
  | succ i=>simp [AV.cells] at hc
 | ag hl h=>exact ⟨hl,h⟩
def Al3 (a b:Nat) (A A':Blk):Prop:=A.live=true∧A.ver=A'.ver∧A.ty=A'.ty∧A.esz=A'.esz∧Acr a b A.els A'.els∧∀ e ∈ A'.els,e≠.jk
theorem At6 {w:World} {X:Nat→Prop} {hc hc':HC} {a b:Nat} (hcnt:hc'.cnt=hc.cnt) (hloc:∀ i,hc'.loc i=hc.loc (K8 a b i))
  (hH:∀ (j:Nat) (A':Blk),hc'.H[j]?=some A'→A'.live=true→∃ A,hc.H[K8 a b j]?=some A∧Al3 a b A A') {x y:AV} {v:Value} (h:Ren a b x y) (hv:VR w X (some hc) x v):VR w X (some hc') y v:=by
 induction h generalizing v with
 | same h=>exact Gw _ h hv.close
 | jk=>exact .jk
 | pt id ver i off=>
  cases hv with
  | pt h1 h2=>
   refine .pt h1 fun hc1 e=>?_
   cases e
   obtain ⟨g1,g2⟩:=h2 hc rfl
   refine ⟨by rw [hcnt]; exact g1,fun B' e1 e2 e3=>?_⟩
   obtain ⟨B,k1,k2⟩:=hH _ B' e1 e2
   rw [Kw] at k1
   obtain ⟨b',base,q1,q2⟩:=g2 B k1 k2.1 (k2.2.1.trans e3)
   exact ⟨b',base,by rw [hloc,Kw]; exact q1,by rw [q2,k2.2.2.2.1]⟩
 | sl id ver lo len=>
  cases hv with
  | sl h1 h2=>
   refine .sl h1 fun hc1 e=>?_
   cases e
   obtain ⟨g1,g2⟩:=h2 hc rfl
   refine ⟨by rw [hcnt]; exact g1,fun B' e1 e2 e3=>?_⟩
   obtain ⟨B,k1,k2⟩:=hH _ B' e1 e2
   rw [Kw] at k1
   obtain ⟨q0,q1⟩:=g2 B k1 k2.1 (k2.2.1.trans e3)
   refine ⟨by rw [←(IF k2.2.2.2.2.1).1]; exact q0,?_⟩
   rcases q1 with q1 | ⟨b',base,cap,n,p0,p1,p2,p3,p4,p5⟩
   ·exact .inl q1
   ·exact .inr ⟨b',base,cap,n,by rw [hloc,Kw]; exact p0,by rw [p1,k2.2.2.2.1],p2,p3,by rw [←k2.2.2.1]; exact p4,by rw [←k2.2.2.2.1]; exact p5⟩
 | ag hl h ih=>
  cases hv with
  | ag hl' h1 h2=>
   exact Awy
theorem At7 {w:World} {X:Nat→Prop} {loc:Nat→Option (Nat × Nat)} {act:Act} {T T':List AV} {H H':List Blk} {c n0 a b:Nat} (hs:SR w X loc ⟨T,H,c⟩ act) (ha:n0≤a) (hb:n0≤b)
  (hT:Acr a b T T') (hH:∀ (j:Nat) (A':Blk),H'[j]?=some A'→A'.live=true→∃ A,H[K8 a b j]?=some A∧Al3 a b A A'):
  ∃ X' loc',SR w X' loc' ⟨T',H',c⟩ act∧∀ w0 X0 Cj,Cj.H.length=n0→Evo w0 X0 Cj w X ((⟨T,H,c⟩:St).hc loc)→Evo w0 X0 Cj w X' ((⟨T',H',c⟩:St).hc loc'):=by
 obtain ⟨h1,h2,h3⟩:=hs
 have hvr:∀ {x y:AV} {v:Value},Ren a b x y→VR w X (some ⟨loc,H,c⟩) x v→VR w X (some ⟨fun i=>loc (K8 a b i),H',c⟩) y v:=
  fun h hv=>At6 (hc:=⟨loc,H,c⟩) (hc':=⟨fun i=>loc (K8 a b i),H',c⟩) rfl (fun _=>rfl) hH h hv
 have hlow:∀ j,K8 a b j < n0→K8 a b j=j:=by
  intro j hj
  unfold K8 at hj ⊢
  by_cases e1:j=a
  ·rw [if_pos e1] at hj; omega
  ·rw [if_neg e1] at hj ⊢
   by_cases e2:j=b
   ·rw [if_pos e2] at hj; omega
   ·rw [if_neg e2]
 refine ⟨X,fun i=>loc (K8 a b i),⟨⟨?_,?_,h1.lt⟩,?_,h3⟩,?_⟩
 ·intro j B' e1 e2
  obtain ⟨B,k1,k2,k3,k4,k5,k6,k7⟩:=hH j B' e1 e2
  obtain ⟨g1,g2,g3⟩:=h1.blk _ B k1 k2
  have hlen:=(IF k6).1
  refine ⟨by rw [←k3]; exact g1,by rw [←hlen]; exact g2,?_⟩
  show match loc (K8 a b j) with
   | none=>B'.els=[]
   | some (b',base)=>X b'∧(∃ cs,w.heap[b']?=some (.cells cs B'.ty (0,0)))∧ElsOk w X ⟨fun i=>loc (K8 a b i),H',c⟩ b' base B'
  have g3':match loc (K8 a b j) with
   | none=>B.els=[]
   | some (b',base)=>X b'∧(∃ cs,w.heap[b']?=some (.cells cs B.ty (0,0)))∧ElsOk w X ⟨loc,H,c⟩ b' base B:=g3
  cases hl:loc (K8 a b j) with
  | none=>
   rw [hl] at g3'
   exact Aeq
  | some p=>
   obtain ⟨b',base⟩:=p
   rw [hl] at g3'
   simp only at g3' ⊢
   obtain ⟨q1,⟨cs,q2⟩,q3⟩:=g3'
   refine ⟨q1,⟨cs,by rw [←k4]; exact q2⟩,fun i e he=>?_⟩
   have hi:i < B'.els.length:=(lx22.1 he).1
   have he0:B.els[i]?=some (B.els[i]'(by omega)):=lx51 (by omega)
   obtain ⟨r1,r2⟩:=q3 i _ he0
   have hre:=(IF k6).2 i _ e he0 he
   obtain ⟨s1,s2⟩:=Acs hre (k7 e (lx25 he))
   refine ⟨by rw [←s1,←k5]; exact r1,fun m d hd=>?_⟩
   have hm:m < e.cells.length:=(lx22.1 hd).1
   have Cj:=lx51 (l:=(B.els[i]'(by omega)).cells) (i:=m) (by omega)
   obtain ⟨u,t1,t2,t3⟩:=r2 m _ Cj
   exact ⟨u,by rw [←k5]; exact t1,t2,hvr (s2 m _ d Cj hd) t3⟩
 ·intro j j' B1 B2 b' o o' e1 e2 e3 e4 e5 e6
  obtain ⟨A1,k1,k2⟩:=hH j B1 e1 e3
  obtain ⟨A2,l1,l2⟩:=hH j' B2 e2 e4
  have:=h1.inj _ _ A1 A2 b' o o' k1 l1 k2.1 l2.1 e5 e6
  rw [←Kw a b j,this,Kw]
 ·obtain ⟨e1,e2⟩:=IF hT
  exact As9
 ·intro w0 X0 Cj hn he
  refine ⟨he.os,he.tape,he.output,he.size,he.keep,he.shape,he.xs,he.cnt,?_,?_⟩
  ·intro j B' e1 e2 e3
   obtain ⟨B,k1,k2,k3,k4,k5,k6,k7⟩:=hH j B' e1 e2
   obtain ⟨B0,g1,g2,g3,g4,g5,g6,g7⟩:=he.old (K8 a b j) B k1 k2 (by rw [k3]; exact e3)
   have hlt:K8 a b j < n0:=by rw [←hn]; exact (lx22.1 g1).1
   have hj:=hlow j hlt
   rw [hj] at g1
   have g4':loc (K8 a b j)=Cj.loc (K8 a b j):=g4
   refine ⟨B0,g1,g2,g3.trans k3,?_,g5.trans k5,g6.trans k4,g7.trans (IF k6).1⟩
   show loc (K8 a b j)=Cj.loc j
   rw [g4',hj]
  ·intro j B' b' o e1 e2 e3 e4
   obtain ⟨B,k1,k2,_⟩:=hH j B' e1 e2
   obtain ⟨B0,o',g1,g2,g3⟩:=he.fresh (K8 a b j) B b' o k1 k2 e3 e4
   have hlt:K8 a b j < n0:=by rw [←hn]; exact (lx22.1 g1).1
   have hj:=hlow j hlt
   rw [hj] at g1 g3
   exact ⟨B0,o',g1,g2,g3⟩
section
variable {P:Program} {E:Env} {n0:Nat} {rs:List ResultVar} {R:AV→St→Prop}
theorem Al4 {k:List Item} {T T':List AV} {H H':List Blk} {c:Nat} (a b:Nat) (ha:n0≤a) (hb:n0≤b) (hT:Acr a b T T')
  (hH:∀ (j:Nat) (A':Blk),H'[j]?=some A'→A'.live=true→∃ A,H[K8 a b j]?=some A∧Al3 a b A A') (h:Go P E n0 rs R k ⟨T',H',c⟩):Go P E n0 rs R k ⟨T,H,c⟩:=
 .ghost (s':=⟨T',H',c⟩) (fun w X loc act hs=>At7 hs ha hb hT hH) h
end
section
variable {P:Program} {E:Env} {n0:Nat} {rs:List ResultVar} {R:AV→St→Prop}
end
inductive WkV (H:List Blk):AV→AV→Prop
 | refl (v:AV):WkV H v v
 | jk (v:AV):WkV H v .jk
 | vw (z:Bool) (es:List AV):WkV H (.vw z es) (.vw false es)
 | sl0 (id ver lo:Nat) (h:(AO H id ver).isSome=true):WkV H (.sl id ver lo 0) (.vw false [])
 | ag {cs ds:List AV} (hl:cs.length=ds.length) (h:∀ (i:Nat) (c d:AV),cs[i]?=some c→ds[i]?=some d→WkV H c d):WkV H (.ag cs) (.ag ds)
 | tu {cs ds:List AV} (hl:cs.length=ds.length) (h:∀ (i:Nat) (c d:AV),cs[i]?=some c→ds[i]?=some d→WkV H c d):WkV H (.tu cs) (.tu ds)
def WkL (H:List Blk):List AV→List AV→Prop
 | [],[]=>True
 | a::l,b::m=>WkV H a b∧WkL H l m
 | _,_=>False
theorem Kx {H:List Blk}:∀ {l m:List AV},WkL H l m→l.length=m.length∧∀ (i:Nat) (c d:AV),l[i]?=some c→m[i]?=some d→WkV H c d
 | [],[],_=>⟨rfl,fun i c d h=>by simp at h⟩
 | x::l,y::m,h=>by
  obtain ⟨h1,h2⟩:=Kx h.2
  refine ⟨by simp [h1],fun i c d hc hd=>?_⟩
  cases i with
  | zero=>simp at hc hd; subst hc; subst hd; exact h.1
  | succ i=>simp at hc hd; exact h2 i c d hc hd
 | [],_::_,h=>h.elim
 | _::_,[],h=>h.elim
theorem XU {H:List Blk}:∀ {l m:List AV},l.length=m.length→(∀ (i:Nat) (c d:AV),l[i]?=some c→m[i]?=some d→WkV H c d)→WkL H l m
 | [],[],_,_=>trivial
 | x::l,y::m,hl,h=>⟨h 0 x y rfl rfl,XU (by simpa using hl) fun i c d hc hd=>h (i+1) c d (by simpa using hc) (by simpa using hd)⟩
 | [],_::_,h,_=>by simp at h
 | _::_,[],h,_=>by simp at h
theorem Ml (H:List Blk):∀ l:List AV,WkL H l l
 | []=>trivial
 | x::l=>⟨.refl x,Ml H l⟩
theorem Wy (H:List Blk) (a:AV):WkV H a a=True:=eq_true (.refl a)
theorem Ah4 (H:List Blk) (a:AV):WkV H a .jk=True:=eq_true (.jk a)
theorem Ah5 (H:List Blk) (z:Bool) (es:List AV):WkV H (.vw z es) (.vw false es)=True:=eq_true (.vw z es)
theorem Ah6 (H:List Blk) (cs ds:List AV):WkV H (.ag cs) (.ag ds)=WkL H cs ds:=propext ⟨fun h=>by
 cases h with
 | refl=>exact Ml H _
 | ag hl h=>exact XU hl h,fun h=>.ag (Kx h).1 (Kx h).2⟩
theorem Ah7 (H:List Blk) (cs ds:List AV):WkV H (.tu cs) (.tu ds)=WkL H cs ds:=propext ⟨fun h=>by
 cases h with
 | refl=>exact Ml H _
 | tu hl h=>exact XU hl h,fun h=>.tu (Kx h).1 (Kx h).2⟩
theorem Aa8 (H:List Blk):WkL H [] []=True:=rfl
theorem Wz (H:List Blk) (a b:AV) (l m:List AV):WkL H (a::l) (b::m)=(WkV H a b∧WkL H l m):=rfl
theorem M7 {w:World} {X:Nat→Prop} {hc:HC} {a b:AV} (h:WkV hc.H a b):∀ {v:Value},VR w X (some hc) a v→VR w X (some hc) b v:=by
 induction h with
 | refl=>exact fun hv=>hv
 | jk=>exact fun _=>.jk
 | vw z es=>
  intro v hv
  cases hv with
  | vw0 hz hm=>exact .vw0 (fun h=>by cases h) hm
  | vw1 f hne hX hb hcap hz hmax hsz hc' hv'=>exact .vw1 f hne hX hb hcap (fun h=>by cases h) hmax hsz hc' hv'
 | sl0 id ver lo h=>
  intro v hv
  cases hv with
  | sl g1 g2=>
   obtain ⟨k1,k2⟩:=g2 _ rfl
   obtain ⟨B,hB⟩:=Option.isSome_iff_exists.1 h
   obtain ⟨e1,e2,e3⟩:=Br hB
   rcases (k2 B e1 e2 e3).2 with ⟨_,a,rfl⟩ | ⟨b',base,cap,n,_,rfl,_,hm,_⟩
   ·exact .vw0 (fun h=>by cases h) (BT _)
   ·exact .vw0 (fun h=>by cases h) hm
 | ag hl h ih=>
  intro v hv
  cases hv with
  | ag g1 g2 g3=>
   refine .ag (hl.symm.trans g1) (fun i d u hd hu=>?_) g3
   exact Ap6
 | tu hl h ih=>
  intro v hv
  cases hv with
  | tu g1 g2=>
   refine .tu (hl.symm.trans g1) (fun i d u hd hu=>?_)
   exact Ap6
theorem Ah8 {H:List Blk} {e e':AV} (h:WkV H e e') (hj:e'≠.jk):e.cells.length=e'.cells.length∧∀ (j:Nat) (a a':AV),e.cells[j]?=some a→e'.cells[j]?=some a'→WkV H a a':=by
 have one:∀ {x y:AV},WkV H x y→x.cells=[x]→y.cells=[y]→x.cells.length=y.cells.length∧∀ (j:Nat) (a a':AV),x.cells[j]?=some a→y.cells[j]?=some a'→WkV H a a':=by
  intro x y hw hx hy
  rw [hx,hy]
  refine ⟨rfl,fun j a a' h1 h2=>?_⟩
  cases j with
  | zero=>simp at h1 h2; subst h1; subst h2; exact hw
  | succ j=>simp at h1
 cases h with
 | refl=>exact ⟨rfl,fun j a a' h1 h2=>by rw [h1] at h2; cases h2; exact .refl _⟩
 | jk=>exact absurd rfl hj
 | vw z es=>exact one (.vw z es) rfl rfl
 | sl0 id ver lo h=>exact one (.sl0 id ver lo h) rfl rfl
 | ag hl h=>exact ⟨hl,h⟩
 | tu hl h=>exact one (.tu hl h) rfl rfl
def GC:List AV→Bool
 | []=>true
 | .jk::_=>false
 | _::l=>GC l
theorem Mm:∀ {l:List AV},GC l=true→∀ e ∈ l,e≠.jk
 | [],_,e,he=>by cases he
 | a::l,h,e,he=>by
  rcases lx59.1 he with rfl | he
  ·rintro rfl; simp [GC] at h
  ·refine Mm (l:=l) ?_ e he
   cases a <;> simp_all [GC]
def WkB (H:List Blk) (a b:Blk):Prop:=a.live=true∧a.ver=b.ver∧a.ty=b.ty∧a.esz=b.esz∧WkL H a.els b.els∧GC b.els=true
def WA (H0:List Blk):List Blk→List Blk→Prop
 | _,[]=>True
 | [],b::H'=>b.live=false∧WA H0 [] H'
 | a::H,b::H'=>(b.live=false∨a=b∨WkB H0 a b)∧WA H0 H H'
theorem Ky (H0 H:List Blk):WA H0 H []=True:=by cases H <;> rfl
theorem Ce (H0:List Blk) (a b:Blk) (H H':List Blk):WA H0 (a::H) (b::H')=((b.live=false∨a=b∨WkB H0 a b)∧WA H0 H H'):=rfl
theorem Fo (H0:List Blk):∀ H:List Blk,WA H0 H H
 | []=>trivial
 | _::H=>⟨.inr (.inl rfl),Fo H0 H⟩
theorem Sx (H0 H:List Blk):WA H0 H H=True:=eq_true (Fo H0 H)
theorem C8 (H0 D:List Blk):∀ H:List Blk,WA H0 (H++D) H
 | []=>by cases D <;> trivial
 | _::H=>⟨.inr (.inl rfl),C8 H0 D H⟩
theorem XV (H:List Blk) (l l':Bool) (v v' t t' e e':Nat) (es es':List AV) (p p':Bool):WkB H ⟨l,v,t,e,es,p⟩ ⟨l',v',t',e',es',p'⟩=(l=true∧v=v'∧t=t'∧e=e'∧WkL H es es'∧GC es'=true):=rfl
theorem J6:GC []=true:=rfl
theorem Mn (cs l:List AV):GC (.ag cs::l)=GC l:=rfl
theorem Ty (v:Value) (l:List AV):GC (.sc v::l)=GC l:=rfl
theorem Aa9 (z:Bool) (es l:List AV):GC (.vw z es::l)=GC l:=rfl
theorem Aaa (i v o n:Nat) (l:List AV):GC (.sl i v o n::l)=GC l:=rfl
theorem P3 {H0:List Blk}:∀ {H H':List Blk},WA H0 H H'→∀ (i:Nat) (b:Blk),H'[i]?=some b→b.live=true→∃ a,H[i]?=some a∧(a=b∨WkB H0 a b)
 | _,[],_,i,b,h,_=>by simp at h
 | [],b::H',h,i,c,hc,hl=>by
  cases i with
  | zero=>simp at hc; subst hc; rw [h.1] at hl; cases hl
  | succ i=>
   simp at hc
   obtain ⟨a,h1,_⟩:=P3 h.2 i c hc hl
   simp at h1
 | a::H,b::H',h,i,c,hc,hl=>by
  cases i with
  | zero=>
   simp at hc; subst hc
   rcases h.1 with h1 | h1
   ·rw [h1] at hl; cases hl
   ·exact ⟨a,rfl,h1⟩
  | succ i=>
   simp at hc
   obtain ⟨a',h1,h2⟩:=P3 h.2 i c hc hl
   exact ⟨a',by simpa using h1,h2⟩
theorem Ah9 {w:World} {X:Nat→Prop} {hc:HC} (hr:HR w X hc) {H':List Blk} {cnt':Nat} (h:WA hc.H hc.H H') (hcnt:hc.cnt≤cnt'):
  HR w X ⟨hc.loc,H',cnt'⟩∧Evo w X hc w X ⟨hc.loc,H',cnt'⟩:=by
 have key:∀ (i:Nat) (b:Blk),H'[i]?=some b→b.live=true→∃ a,hc.H[i]?=some a∧a.live=true∧a.ver=b.ver∧a.ty=b.ty∧a.esz=b.esz∧a.els.length=b.els.length∧
   ∀ (j:Nat) (e e':AV),a.els[j]?=some e→b.els[j]?=some e'→e.cells.length=e'.cells.length∧∀ (m:Nat) (x x':AV),e.cells[m]?=some x→e'.cells[m]?=some x'→WkV hc.H x x':=by
  intro i b hb hl
  obtain ⟨a,h1,h2⟩:=P3 h i b hb hl
  rcases h2 with rfl | ⟨g1,g2,g3,g4,g5,g6⟩
  ·exact ⟨a,h1,hl,rfl,rfl,rfl,rfl,fun j e e' he he'=>by
    rw [he] at he'; cases he'
    exact ⟨rfl,fun m x x' h3 h4=>by rw [h3] at h4; cases h4; exact .refl _⟩⟩
  ·obtain ⟨k1,k2⟩:=Kx g5
   exact ⟨a,h1,g1,g2,g3,g4,k1,fun j e e' he he'=>Ah8 (k2 j e e' he he') (Mm g6 e' (lx25 he'))⟩
 have ev:Evo w X hc w X ⟨hc.loc,H',cnt'⟩:=by
  refine ⟨rfl,rfl,rfl,Aw _,fun _ _ _=>rfl,fun _ _ h=>h,fun _ _=>Iff.rfl,hcnt,?_,?_⟩
  ·intro k B e1 e2 e3
   obtain ⟨a,k1,k2,k3,k4,k5,k6,_⟩:=key k B e1 e2
   exact ⟨a,k1,k2,k3,rfl,k5,k4,k6⟩
  ·intro k B b o e1 e2 e3 e4
   obtain ⟨a,k1,k2,_⟩:=key k B e1 e2
   exact ⟨a,o,k1,k2,e3⟩
 refine ⟨⟨?_,?_,hr.lt⟩,ev⟩
 ·intro k B e1 e2
  obtain ⟨a,k1,k2,k3,k4,k5,k6,k7⟩:=key k B e1 e2
  obtain ⟨q1,q2,q3⟩:=hr.blk k a k1 k2
  have q1':a.ver < hc.cnt:=q1
  refine ⟨by rw [←k3]; exact KQ q1' hcnt,by rw [←k6]; exact q2,?_⟩
  show match hc.loc k with
   | none=>B.els=[]
   | some (b,base)=>X b∧(∃ cs,w.heap[b]?=some (.cells cs B.ty (0,0)))∧ElsOk w X ⟨hc.loc,H',cnt'⟩ b base B
  cases hl:hc.loc k with
  | none=>
   rw [hl] at q3
   simp only at q3 ⊢
   rw [q3] at k6
   exact List.length_eq_zero_iff.1 k6.symm
  | some p=>
   obtain ⟨b,base⟩:=p
   rw [hl] at q3
   simp only at q3 ⊢
   obtain ⟨p1,⟨cs,p2⟩,p3⟩:=q3
   refine ⟨p1,⟨cs,by rw [←k4]; exact p2⟩,fun i e he=>?_⟩
   have hi:i < B.els.length:=(lx22.1 he).1
   have he0:a.els[i]?=some (a.els[i]'(by omega)):=lx51 (by omega)
   obtain ⟨r1,r2⟩:=p3 i _ he0
   obtain ⟨s1,s2⟩:=k7 i _ e he0 he
   refine ⟨by rw [←s1,←k5]; exact r1,fun m d hd=>?_⟩
   have hm:m < e.cells.length:=(lx22.1 hd).1
   have Cj:=lx51 (l:=(a.els[i]'(by omega)).cells) (i:=m) (by omega)
   obtain ⟨u,t1,t2,t3⟩:=r2 m _ Cj
   exact ⟨u,by rw [←k5]; exact t1,t2,(M7 (s2 m _ d Cj hd) t3).mono ev hr⟩
 ·intro k k' B1 B2 b o o' e1 e2 e3 e4 e5 e6
  obtain ⟨a1,k1,k2,_⟩:=key k B1 e1 e3
  obtain ⟨a2,l1,l2,_⟩:=key k' B2 e2 e4
  exact hr.inj k k' a1 a2 b o o' k1 l1 k2 l2 e5 e6
section
variable {P:Program} {E:Env} {n0:Nat} {rs:List ResultVar} {R:AV→St→Prop}
end
noncomputable def Xz {α:Type} (q:α→Prop) (enc:α→List AV × List Blk × Nat) (out:α→AV × List Blk × Nat) (args:List AV) (H:List Blk) (cnt:Nat):Option (AV × List Blk × Nat):=
 open Classical in if h:∃ x,q x∧enc x=(args,H,cnt) then some (out (Classical.choose h)) else none
theorem G5 {α:Type} {q:α→Prop} {enc:α→List AV × List Blk × Nat} {out:α→AV × List Blk × Nat} (x:α) (hq:q x) (hi:∀ y,q y→enc y=enc x→out y=out x):Xz q enc out (enc x).1 (enc x).2.1 (enc x).2.2=some (out x):=by
 unfold Xz
 have h:∃ y,q y∧enc y=((enc x).1,(enc x).2.1,(enc x).2.2):=⟨x,hq,rfl⟩
 rw [dif_pos h,hi _ (lx95 h).1 (lx95 h).2]
def M8 (P:Program) (g:Nat) (F:List AV→List Blk→Nat→Option (AV × List Blk × Nat)):Prop:=∀ args H cnt r H' cnt',F args H cnt=some (r,H',cnt')→HSpec P g args H cnt r H' cnt'
theorem G6 {P:Program} {g:Nat} {α:Type} {q:α→Prop} {enc:α→List AV × List Blk × Nat} {out:α→AV × List Blk × Nat}
  (h:∀ x,q x→HSpec P g (enc x).1 (enc x).2.1 (enc x).2.2 (out x).1 (out x).2.1 (out x).2.2):M8 P g (Xz q enc out):=by
 intro args H cnt r H' cnt' hr
 unfold Xz at hr
 split at hr
 ·rename_i hx
  injection hr with hr
  have h1:=(lx95 hx).1
  have h2:=(lx95 hx).2
  have h3:=h _ h1
  rw [h2,hr] at h3
  exact h3
 ·cases hr
inductive HOks (P:Program):List (Nat × (List AV→List Blk→Nat→Option (AV × List Blk × Nat)))→Prop
 | nil:HOks P []
 | cons {g F r} (h:M8 P g F) (t:HOks P r):HOks P ((g,F)::r)
def E5:List (Nat × (List AV→List Blk→Nat→Option (AV × List Blk × Nat)))→Nat→Bool
 | [],_=>false
 | (g,_)::r,f=>if f=g then true else E5 r f
def hl:List (Nat × (List AV→List Blk→Nat→Option (AV × List Blk × Nat)))→Nat→List AV→List Blk→Nat→Option (AV × List Blk × Nat)
 | [],_,_,_,_=>none
 | (g,F)::r,f,a,H,c=>if f=g then F a H c else hl r f a H c
def WB (l lv lf:List (Nat × (List AV→Option AV))) (lh:List (Nat × (List AV→List Blk→Nat→Option (AV × List Blk × Nat)))) (lit:Bool) (pm:Nat→Option (List Nat)):Env:=
 ⟨DN l,pl l,fun g args H cnt=>if E5 lh g=true then hl lh g args H cnt else if DN lf g=true then hcF H cnt (pl lf g (Al H args)) else hcV H cnt (norefs args) (pl lv g args),lit,pm,E5 lh⟩
section
variable (l lv lf:List (Nat × (List AV→Option AV))) (lh:List (Nat × (List AV→List Blk→Nat→Option (AV × List Blk × Nat)))) (lit:Bool) (pm:Nat→Option (List Nat))
theorem WC:(WB l lv lf lh lit pm).lit=lit:=rfl
theorem Sy (i:Nat):(WB l lv lf lh lit pm).perm i=pm i:=rfl
theorem Aab (g:Nat):(WB l lv lf lh lit pm).hb g=(E5 lh g && !DN l g):=rfl
theorem WD (f:Nat):(WB l lv lf lh lit pm).isP f=DN l f:=rfl
theorem P4 (f:Nat) (a:List AV):(WB l lv lf lh lit pm).pcall f a=pl l f a:=rfl
theorem P5 (f:Nat) (a:List AV) (H:List Blk) (cnt:Nat):(WB l lv lf lh lit pm).hcall f a H cnt=if E5 lh f=true then hl lh f a H cnt else if DN lf f=true then hcF H cnt (pl lf f (Al H a)) else hcV H cnt (norefs a) (pl lv f a):=rfl
end
theorem Aj {P:Program} {l lv lf:List (Nat × (List AV→Option AV))} {lh:List (Nat × (List AV→List Blk→Nat→Option (AV × List Blk × Nat)))} {lit:Bool} {pm:Nat→Option (List Nat)}
  (h:POks P l) (hv:VOks P lv) (hf:FOks P lf) (hh:HOks P lh):EnvOk P (WB l lv lf lh lit pm) where
 p:=(Mf h).p
 h f args H cnt r H' cnt' he:=by
  simp only [WB] at he
  split at he
  ·induction hh with
   | nil=>simp [hl] at he
   | @cons g F r' h t ih=>
    simp only [hl] at he
    split at he
    ·rename_i hh; subst hh; exact h _ _ _ _ _ _ he
    ·rename_i h1 h2
     refine ih ?_ he
     simp only [E5] at h1
     rw [if_neg h2] at h1
     exact h1
  ·split at he
   ·exact (Ar h hf).h f args H cnt r H' cnt' he
   ·exact (Al0 h hv).h f args H cnt r H' cnt' he
theorem Ag {P:Program} {E:Env} (hE:EnvOk P E) (hm:P.follows .mixedOrders=true) {f:FuncId} {fn:Func} {c:Code} {args:List AV} {H H':List Blk} {cnt cnt':Nat} {r:AV}
  (hf:P.funcs[f]?=some fn) (hb:fn.body=some c) (hn:(fn.name == "runtime.NumGoroutine")=false) (hlex:Dv E.hb E.perm c=true)
  (h:Go P E H.length fn.results.toList (fun r' s'=>WkV s'.H r' r∧WA s'.H s'.H H'∧s'.cnt≤cnt') [.code c] (Af fn args H cnt)):HSpec P f args H cnt r H' cnt':=by
 refine ⟨⟨fn,hf,hn,by rw [hb]; rfl⟩,fun w X loc cargs hr hv=>?_⟩
 refine (Eh hE hm hf hb hlex h w X loc cargs hr hv).mono ?_
 rintro e w' ⟨r',s',X',loc',c',rfl,⟨h0,h1,h2⟩,g1,g2,g3⟩
 obtain ⟨q1,q2⟩:=Ah9 (hc:=s'.hc loc') (H':=H') (cnt':=cnt') g1 h1 h2
 exact ⟨X',loc',c',rfl,q1,(M7 (hc:=s'.hc loc') h0 g2).mono q2 g1,g3.trans q2⟩
theorem BO {P:Program} {E:Env} (hE:EnvOk P E) (hm:P.follows .mixedOrders=true) {f:FuncId} {fn:Func} {c:Code} {args:List AV} {r:AV}
  (hf:P.funcs[f]?=some fn) (hb:fn.body=some c) (hn:(fn.name == "runtime.NumGoroutine")=false) (hlex:Dv E.hb E.perm c=true) (hr:r.noref=true)
  (h:Go P E 0 fn.results.toList (fun r' s'=>WkV [] (Ao s'.H r') r) [.code c] (Af fn args [] 0)):C1 P f args r:=by
 refine ⟨⟨fn,hf,hn,by rw [hb]; rfl⟩,hr,fun w X0 cargs hx hv=>?_⟩
 have IY:HR w X0 ⟨fun _=>none,[],0⟩:=⟨fun id B h1 _=>by simp at h1,fun id id' B B' b o o' h1=>by simp at h1,hx⟩
 refine (Eh hE hm hf hb hlex (H:=[]) (cnt:=0) (R:=fun r' s'=>WkV [] (Ao s'.H r') r) h w X0 (fun _=>none) cargs IY hv).mono ?_
 rintro e w' ⟨r',s',X',loc',c',rfl,h0,g1,g2,g3⟩
 have hown:∀ b,Y7 (s'.hc loc') b→¬ X0 b:=by
  exact Apg
 refine ⟨c',rfl,M7 (hc:=Cj) h0 (PU g1 (fun b hb0=>(g3.xs b (hx b hb0)).2 hb0) hown _ g2),g3.os,g3.tape,g3.output,g3.size,fun k hk=>g3.keep k hk ?_⟩
 exact Uv
theorem D1 {P:Program} {E:Env} (hE:EnvOk P E) (hm:P.follows .mixedOrders=true) {f:FuncId} {fn:Func} {c:Code} {args:List AV} {r:AV}
  (hf:P.funcs[f]?=some fn) (hb:fn.body=some c) (hn:(fn.name == "runtime.NumGoroutine")=false) (hlex:Dv E.hb E.perm c=true) (hr:r.noref=true)
  (h:Go P E 0 fn.results.toList (fun r' s'=>WkV [] (Ao s'.H r') r∧r'.freshIn s'.H=true) [.code c] (Af fn args [] 0)):Hz P f args r:=by
 refine ⟨⟨fn,hf,hn,by rw [hb]; rfl⟩,hr,fun w cargs hv=>?_⟩
 refine (Eh hE hm hf hb hlex (H:=[]) (cnt:=0) (R:=fun r' s'=>WkV [] (Ao s'.H r') r∧r'.freshIn s'.H=true) h w Q6 (fun _=>none) cargs (IY w) hv).mono ?_
 rintro e w' ⟨r',s',X',loc',c',rfl,⟨h0,hfr⟩,g1,g2,g3⟩
 have hown:∀ b,Y7 (s'.hc loc') b→¬ b < w.heap.size:=by
  rintro b ⟨id,B,o,e1,e2,e3⟩ hb0
  exact Aeu
 refine ⟨c',rfl,M7 (hc:=Cj) h0 (Lt g1 hown _ hfr g2),g3.os,g3.tape,g3.output,g3.size,fun k hk=>g3.keep k hk ?_⟩
 exact Uv
end Go.SX
