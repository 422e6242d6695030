/-
  Joined texts: SYI, SXI, SYG, SXT, SXU, SXV.
  Conditions: none.
-/
import Derived.Test.YtdjpkhjaibdogaaGreatL16
import Derived.Test.YtdjpkhjaibdogaaGreatL13
import Derived.Test.YtdjpkhjaibdogaaGreatL17
namespace Go.SX
set_option linter.unusedSimpArgs false
set_option linter.unusedVariables false
open Go.RowKit (Below)
inductive NwV (id ver:Nat):AV→AV→Prop
 | refl (v:AV):NwV id ver v v
 | nil:NwV id ver (.vw true []) (.sl id ver 0 0)
 | nil0:NwV id ver (.sc (.slice none 0 0)) (.sl id ver 0 0)
 | ag {cs ds:List AV} (hl:cs.length=ds.length) (h:∀ (i:Nat) (c d:AV),cs[i]?=some c→ds[i]?=some d→NwV id ver c d):NwV id ver (.ag cs) (.ag ds)
def NwL (id ver:Nat):List AV→List AV→Prop
 | [],[]=>True
 | x::l,y::m=>NwV id ver x y∧NwL id ver l m
 | _,_=>False
theorem nwL_get {id ver:Nat}:∀ {l m:List AV},NwL id ver l m→l.length=m.length∧∀ (i:Nat) (c d:AV),l[i]?=some c→m[i]?=some d→NwV id ver c d
 | [],[],_=>⟨rfl,fun i c d h=>by simp at h⟩
 | x::l,y::m,h=>by
  obtain ⟨h1,h2⟩:=nwL_get h.2
  refine ⟨by simp [h1],fun i c d hc hd=>?_⟩
  cases i with
  | zero=>simp at hc hd; subst hc; subst hd; exact h.1
  | succ i=>simp at hc hd; exact h2 i c d hc hd
 | [],_::_,h=>h.elim
 | _::_,[],h=>h.elim
theorem nwL_refl (id ver:Nat):∀ l:List AV,NwL id ver l l
 | []=>trivial
 | x::l=>⟨.refl x,nwL_refl id ver l⟩
theorem nwV_ag {id ver:Nat} {cs ds:List AV} (h:NwL id ver cs ds):NwV id ver (.ag cs) (.ag ds):=.ag (nwL_get h).1 (nwL_get h).2
def NwB (id ver:Nat) (a b:Blk):Prop:=a=b∨b.live=false∨(a.live=b.live∧a.ver=b.ver∧a.ty=b.ty∧a.esz=b.esz∧NwL id ver a.els b.els)
def NwH (id ver:Nat):List Blk→List Blk→Prop
 | [],[]=>True
 | a::l,b::m=>NwB id ver a b∧NwH id ver l m
 | _,_=>False
theorem nwH_get {id ver:Nat}:∀ {l m:List Blk},NwH id ver l m→l.length=m.length∧∀ (i:Nat) (c d:Blk),l[i]?=some c→m[i]?=some d→NwB id ver c d
 | [],[],_=>⟨rfl,fun i c d h=>by simp at h⟩
 | x::l,y::m,h=>by
  obtain ⟨h1,h2⟩:=nwH_get h.2
  refine ⟨by simp [h1],fun i c d hc hd=>?_⟩
  cases i with
  | zero=>simp at hc hd; subst hc; subst hd; exact h.1
  | succ i=>simp at hc hd; exact h2 i c d hc hd
 | [],_::_,h=>h.elim
 | _::_,[],h=>h.elim
theorem nwH_refl (id ver:Nat):∀ l:List Blk,NwH id ver l l
 | []=>trivial
 | x::l=>⟨.inl rfl,nwH_refl id ver l⟩
theorem nw_cells {id ver:Nat} {x y:AV} (h:NwV id ver x y):x.cells.length=y.cells.length∧∀ (i:Nat) (c d:AV),x.cells[i]?=some c→y.cells[i]?=some d→NwV id ver c d:=by
 cases h with
 | refl=>exact ⟨rfl,fun i c d hc hd=>by rw [hc] at hd; cases hd; exact .refl _⟩
 | nil=>
  refine ⟨rfl,fun i c d hc hd=>?_⟩
  cases i with
  | zero=>simp [AV.cells] at hc hd; subst hc; subst hd; exact .nil
  | succ i=>simp [AV.cells] at hc
 | nil0=>
  refine ⟨rfl,fun i c d hc hd=>?_⟩
  cases i with
  | zero=>simp [AV.cells] at hc hd; subst hc; subst hd; exact .nil0
  | succ i=>simp [AV.cells] at hc
 | ag hl h=>exact ⟨hl,h⟩
theorem nw_vr {w:World} {X:Nat→Prop} {hc hc':HC} {id ver ty esz:Nat} (ev:Evo w X hc w X hc') (hr:HR w X hc) (hv':ver < hc'.cnt) (hid:hc'.H[id]?=some ⟨true,ver,ty,esz,[],false⟩)
  {x y:AV} {v:Value} (h:NwV id ver x y) (hv:VR w X (some hc) x v):VR w X (some hc') y v:=by
 induction h generalizing v with
 | refl=>exact hv.mono ev hr
 | nil=>
  cases hv with
  | vw0 hz hm=>
   rename_i a cap
   obtain rfl:=hz rfl
   refine .sl ⟨_,_,rfl⟩ fun hc1 h1=>?_
   cases h1
   refine ⟨hv',fun B h1 _ _=>?_⟩
   rw [hid] at h1
   cases h1
   exact ⟨by simp,.inl ⟨rfl,_,rfl⟩⟩
  | vw1 f hne=>exact absurd rfl hne
 | nil0=>
  cases hv with
  | sc h=>
   refine .sl ⟨_,_,rfl⟩ fun hc1 h1=>?_
   cases h1
   refine ⟨hv',fun B h1 _ _=>?_⟩
   rw [hid] at h1
   cases h1
   exact ⟨by simp,.inl ⟨rfl,_,rfl⟩⟩
 | ag hl h ih=>
  cases hv with
  | ag hl' h1 h2=>
   refine .ag (hl.symm.trans hl') (fun i d u hd hu=>?_) h2
   have hi:i < _:=(List.getElem?_eq_some_iff.1 hd).1
   have hci:=List.getElem?_eq_getElem (hl ▸ hi)
   exact ih i _ d hci hd (h1 i _ u hci hu)
theorem nw_sr {w:World} {X:Nat→Prop} {loc:Nat→Option (Nat × Nat)} {act:Act} {T T':List AV} {H H':List Blk} {c c' ver ty esz:Nat} (hs:SR w X loc ⟨T,H,c⟩ act) (hv:c≤ver) (hv':ver < c')
  (hT:NwL H.length ver T T') (hH:NwH H.length ver H H'):
  ∃ X' loc',SR w X' loc' ⟨T',H'++[⟨true,ver,ty,esz,[],false⟩],c'⟩ act∧∀ w0 X0 hc0,Evo w0 X0 hc0 w X ((⟨T,H,c⟩:St).hc loc)→Evo w0 X0 hc0 w X' ((⟨T',H'++[⟨true,ver,ty,esz,[],false⟩],c'⟩:St).hc loc'):=by
 obtain ⟨h1,h2,h3⟩:=hs
 obtain ⟨hl,hg⟩:=nwH_get hH
 have hnew:∀ k (B:Blk),(H'++[(⟨true,ver,ty,esz,[],false⟩:Blk)])[k]?=some B→(k < H'.length∧H'[k]?=some B)∨(k=H'.length∧B=⟨true,ver,ty,esz,[],false⟩):=by
  intro k B hk
  rw [List.getElem?_append] at hk
  split at hk
  ·rename_i hl; exact .inl ⟨hl,hk⟩
  ·rename_i hl
   have hk0:k - H'.length=0:=by
    have:=(List.getElem?_eq_some_iff.1 hk).1
    simp at this; omega
   rw [hk0] at hk
   simp at hk
   exact .inr ⟨by omega,hk.symm⟩
 have key:∀ (k:Nat) (B:Blk),H'[k]?=some B→B.live=true→∃ A,H[k]?=some A∧A.live=true∧A.ver=B.ver∧A.ty=B.ty∧A.esz=B.esz∧NwL H.length ver A.els B.els:=by
  intro k B hB hBl
  have hk:k < H'.length:=(List.getElem?_eq_some_iff.1 hB).1
  have hA:=List.getElem?_eq_getElem (l:=H) (i:=k) (by omega)
  refine ⟨_,hA,?_⟩
  rcases hg k _ B hA hB with h | h | ⟨e1,e2,e3,e4,e5⟩
  ·rw [h]; exact ⟨hBl,rfl,rfl,rfl,nwL_refl _ _ _⟩
  ·rw [h] at hBl; cases hBl
  ·exact ⟨e1.trans hBl,e2,e3,e4,e5⟩
 have ev:Evo w X ⟨loc,H,c⟩ w X ⟨fun k=>if k=H'.length then none else loc k,H'++[⟨true,ver,ty,esz,[],false⟩],c'⟩:=by
  refine ⟨rfl,rfl,rfl,Nat.le_refl _,fun _ _ _=>rfl,fun _ _ hs=>hs,fun _ _=>Iff.rfl,by simp only; omega,?_,?_⟩
  ·intro id B' e1 e2 e3
   simp only at e1 e3 ⊢
   rcases hnew id B' e1 with ⟨hl',e1⟩ | ⟨rfl,rfl⟩
   ·obtain ⟨A,g1,g2,g3,g4,g5,g6⟩:=key id B' e1 e2
    exact ⟨A,g1,g2,g3,by rw [if_neg (by omega)],g5,g4,(nwL_get g6).1⟩
   ·simp only at e3; omega
  ·intro id B' b o e1 e2 e3 e4
   simp only at e1 e3 ⊢
   rcases hnew id B' e1 with ⟨hl',e1⟩ | ⟨rfl,rfl⟩
   ·rw [if_neg (by omega)] at e3
    obtain ⟨A,g1,g2,_⟩:=key id B' e1 e2
    exact ⟨A,o,g1,g2,e3⟩
   ·rw [if_pos rfl] at e3; cases e3
 have hid:(H'++[(⟨true,ver,ty,esz,[],false⟩:Blk)])[H.length]?=some ⟨true,ver,ty,esz,[],false⟩:=by rw [hl,List.getElem?_append_right (Nat.le_refl _)]; simp
 have hvr:∀ {x y:AV} {v:Value},NwV H.length ver x y→VR w X (some ⟨loc,H,c⟩) x v→VR w X (some ⟨fun k=>if k=H'.length then none else loc k,H'++[⟨true,ver,ty,esz,[],false⟩],c'⟩) y v:=
  fun h hv=>nw_vr ev h1 (by exact hv') hid h hv
 refine ⟨X,fun k=>if k=H'.length then none else loc k,⟨⟨?_,?_,h1.lt⟩,?_,h3⟩,fun w0 X0 hc0 he=>he.trans ev⟩
 ·intro id B e1 e2
  rcases hnew id B e1 with ⟨hl',e1⟩ | ⟨rfl,rfl⟩
  ·obtain ⟨A,k1,k2,k3,k4,k5,k6⟩:=key id B e1 e2
   obtain ⟨g1,g2,g3⟩:=h1.blk id A k1 k2
   have g1':A.ver < c:=g1
   have hlen:=(nwL_get k6).1
   refine ⟨by simp only [St.hc]; omega,by rw [←hlen]; exact g2,?_⟩
   show match (if id=H'.length then none else loc id) with
    | none=>B.els=[]
    | some (b,base)=>X b∧(∃ cs,w.heap[b]?=some (.cells cs B.ty (0,0)))∧ElsOk w X ⟨fun k=>if k=H'.length then none else loc k,H'++[⟨true,ver,ty,esz,[],false⟩],c'⟩ b base B
   rw [if_neg (by omega)]
   have g3':match loc id with
    | none=>A.els=[]
    | some (b,base)=>X b∧(∃ cs,w.heap[b]?=some (.cells cs A.ty (0,0)))∧ElsOk w X ⟨loc,H,c⟩ b base A:=g3
   cases hlc:loc id with
   | none=>
    rw [hlc] at g3'
    simp only at g3' ⊢
    rw [g3'] at hlen
    exact List.length_eq_zero_iff.1 hlen.symm
   | some p=>
    obtain ⟨b,base⟩:=p
    rw [hlc] at g3'
    simp only at g3' ⊢
    obtain ⟨q1,⟨cs,q2⟩,q3⟩:=g3'
    refine ⟨q1,⟨cs,by rw [←k4]; exact q2⟩,fun i e he=>?_⟩
    have hi:i < B.els.length:=(List.getElem?_eq_some_iff.1 he).1
    have he0:A.els[i]?=some (A.els[i]'(by omega)):=List.getElem?_eq_getElem (by omega)
    obtain ⟨r1,r2⟩:=q3 i _ he0
    obtain ⟨s1,s2⟩:=nw_cells ((nwL_get k6).2 i _ e he0 he)
    refine ⟨by rw [←s1,←k5]; exact r1,fun m d hd=>?_⟩
    have hm:m < e.cells.length:=(List.getElem?_eq_some_iff.1 hd).1
    have hc0:=List.getElem?_eq_getElem (l:=(A.els[i]'(by omega)).cells) (i:=m) (by omega)
    obtain ⟨u,t1,t2,t3⟩:=r2 m _ hc0
    exact ⟨u,by rw [←k5]; exact t1,t2,hvr (s2 m _ d hc0 hd) t3⟩
  ·refine ⟨hv',by simp [lenMax],?_⟩
   simp only [St.hc,if_true]
 ·intro j j' B1 B2 b' o o' e1 e2 e3 e4 e5 e6
  simp only [St.hc] at e1 e2 e5 e6
  rcases hnew j B1 e1 with ⟨hl1,e1⟩ | ⟨rfl,rfl⟩
  ·rcases hnew j' B2 e2 with ⟨hl2,e2⟩ | ⟨rfl,rfl⟩
   ·rw [if_neg (by omega)] at e5 e6
    obtain ⟨A1,k1,k2,_⟩:=key j B1 e1 e3
    obtain ⟨A2,l1,l2,_⟩:=key j' B2 e2 e4
    exact h1.inj _ _ A1 A2 b' o o' k1 l1 k2 l2 e5 e6
   ·rw [if_pos rfl] at e6; cases e6
  ·rw [if_pos rfl] at e5; cases e5
 ·obtain ⟨e1,e2⟩:=nwL_get hT
  refine ⟨e1.symm.trans h2.1,fun i y v hy hv=>?_⟩
  have hi:i < T'.length:=(List.getElem?_eq_some_iff.1 hy).1
  have hx:T[i]?=some (T[i]'(by omega)):=List.getElem?_eq_getElem (by omega)
  exact hvr (e2 i _ y hx hy) (h2.2 i _ v hx hv)
theorem go_nil {P:Program} {E:Env} {n0:Nat} {rs:List ResultVar} {R:AV→St→Prop} {k:List Item} {T T':List AV} {H H':List Blk} {c:Nat} (ver ty esz c':Nat) (hv:c≤ver) (hv':ver < c')
  (hT:NwL H.length ver T T') (hH:NwH H.length ver H H') (h:Go P E n0 rs R k ⟨T',H'++[⟨true,ver,ty,esz,[],false⟩],c'⟩):Go P E n0 rs R k ⟨T,H,c⟩:=
 .ghost (s':=⟨T',H'++[⟨true,ver,ty,esz,[],false⟩],c'⟩) (fun w X loc act hs=>by
  obtain ⟨X',loc',h1,h2⟩:=nw_sr (ty:=ty) (esz:=esz) hs hv hv' hT hH
  exact ⟨X',loc',h1,fun w0 X0 hc0 _ he=>h2 w0 X0 hc0 he⟩) h
theorem nwL_nil (id ver:Nat):NwL id ver [] []=True:=rfl
theorem nwL_cons (id ver:Nat) (x y:AV) (l m:List AV):NwL id ver (x::l) (y::m)=(NwV id ver x y∧NwL id ver l m):=rfl
theorem nwH_nil (id ver:Nat):NwH id ver [] []=True:=rfl
theorem nwH_cons (id ver:Nat) (x y:Blk) (l m:List Blk):NwH id ver (x::l) (y::m)=(NwB id ver x y∧NwH id ver l m):=rfl
theorem nwV_self (id ver:Nat) (v:AV):NwV id ver v v=True:=eq_true (.refl v)
theorem nwV_nil (id ver:Nat):NwV id ver (.vw true []) (.sl id ver 0 0)=True:=eq_true .nil
theorem nwB_mk (id ver v t e:Nat) (l p q:Bool) (es es':List AV) (h:NwL id ver es es'):NwB id ver ⟨l,v,t,e,es,p⟩ ⟨l,v,t,e,es',q⟩:=.inr (.inr ⟨rfl,rfl,rfl,rfl,h⟩)
end Go.SX

namespace Go.SX
set_option linter.unusedSimpArgs false
set_option linter.unusedVariables false
end Go.SX

namespace Go.SX
set_option linter.unusedSimpArgs false
set_option linter.unusedVariables false
theorem set_last' (H:List Blk) (a b:Blk):(H++[a]).set H.length b=H++[b]:=by
 rw [List.set_append_right _ _ (Nat.le_refl _),Nat.sub_self]; rfl
theorem own0 {P:Program} {f:FuncId} {args:List AV} {H H':List Blk} {cnt cnt1:Nat} (h:HSpec P f args H cnt (.vw true []) H' cnt1) (ver ty esz cnt':Nat) (hv:cnt1≤ver) (hv':ver < cnt'):
  HSpec P f args H cnt (.sl H'.length ver 0 0) (H'++[⟨true,ver,ty,esz,[],false⟩]) cnt':=by
 obtain ⟨hc,h⟩:=h
 refine ⟨hc,fun w X loc cargs hr hvl=>(h w X loc cargs hr hvl).mono ?_⟩
 rintro e w' ⟨X',loc',c,he,hr',hvr,hev⟩
 have hlt:∀ k (B:Blk),H'[k]?=some B→k < H'.length:=fun k B hk=>(List.getElem?_eq_some_iff.1 hk).1
 have hnew:∀ k (B:Blk),(H'++[(⟨true,ver,ty,esz,[],false⟩:Blk)])[k]?=some B→(k < H'.length∧H'[k]?=some B)∨(k=H'.length∧B=⟨true,ver,ty,esz,[],false⟩):=by
  intro k B hk
  rw [List.getElem?_append] at hk
  split at hk
  ·rename_i hl; exact .inl ⟨hl,hk⟩
  ·rename_i hl
   have hk0:k - H'.length=0:=by
    have:=(List.getElem?_eq_some_iff.1 hk).1
    simp at this; omega
   rw [hk0] at hk
   simp at hk
   exact .inr ⟨by omega,hk.symm⟩
 have hevo:Evo w' X' ⟨loc',H',cnt1⟩ w' X' ⟨fun k=>if k=H'.length then none else loc' k,H'++[⟨true,ver,ty,esz,[],false⟩],cnt'⟩:=by
  refine ⟨rfl,rfl,rfl,Nat.le_refl _,fun _ _ _=>rfl,fun _ _ hs=>hs,fun _ _=>Iff.rfl,by simp only; omega,?_,?_⟩
  ·intro id B' h1 h2 h3
   simp only at h1 h3 ⊢
   rcases hnew id B' h1 with ⟨hl,h1⟩ | ⟨rfl,rfl⟩
   ·exact ⟨B',h1,h2,rfl,by rw [if_neg (by omega)],rfl,rfl,rfl⟩
   ·simp only at h3; omega
  ·intro id B' b o h1 h2 h3 h4
   simp only at h1 h3 ⊢
   rcases hnew id B' h1 with ⟨hl,h1⟩ | ⟨rfl,rfl⟩
   ·rw [if_neg (by omega)] at h3
    exact ⟨B',o,h1,h2,h3⟩
   ·rw [if_pos rfl] at h3; cases h3
 refine ⟨X',_,c,he,?_,?_,hev.trans hevo⟩
 ·refine ⟨?_,?_,hr'.lt⟩
  ·intro id B h1 h2
   rcases hnew id B h1 with ⟨hl,h1⟩ | ⟨rfl,rfl⟩
   ·obtain ⟨g1,g2,g3⟩:=hr'.blk id B h1 h2
    simp only at g1 g3 ⊢
    refine ⟨by omega,g2,?_⟩
    rw [if_neg (by omega)]
    split at g3
    ·exact g3
    ·rename_i b base hn
     obtain ⟨k1,k2,k3⟩:=g3
     refine ⟨k1,k2,fun i e he=>?_⟩
     obtain ⟨q1,q2⟩:=k3 i e he
     refine ⟨q1,fun j a ha=>?_⟩
     obtain ⟨c,e1,e2,e3⟩:=q2 j a ha
     exact ⟨c,e1,e2,e3.mono hevo hr'⟩
   ·refine ⟨hv',by simp [lenMax],?_⟩
    simp only [if_true]
  ·intro id id' B B' b o o' h1 h2 h3 h4 h5 h6
   simp only at h1 h2 h5 h6
   rcases hnew id B h1 with ⟨hl,h1⟩ | ⟨rfl,rfl⟩
   ·rcases hnew id' B' h2 with ⟨hl',h2⟩ | ⟨rfl,rfl⟩
    ·rw [if_neg (by omega)] at h5 h6
     exact hr'.inj id id' B B' b o o' h1 h2 h3 h4 h5 h6
    ·rw [if_pos rfl] at h6; cases h6
   ·rw [if_pos rfl] at h5; cases h5
 ·cases hvr with
  | vw0 hz hm=>
   rename_i a cap
   obtain rfl:=hz rfl
   refine .sl ⟨_,_,rfl⟩ fun hc1 h1=>?_
   cases h1
   refine ⟨hv',fun B h1 _ _=>?_⟩
   simp only at h1
   rcases hnew _ B h1 with ⟨hl,_⟩ | ⟨_,rfl⟩
   ·omega
   ·exact ⟨by simp,.inl ⟨rfl,_,rfl⟩⟩
  | vw1 f hne=>exact absurd rfl hne
theorem nilcase {P:Program} {f:FuncId} {z:Bool} {H H':List Blk} {cnt cnt':Nat} {r:AV} (h1:∀ cap,HSpec P f [.sc (.slice none 0 cap)] H cnt r H' cnt') (h2:∀ a cap,HSpec P f [.sc (.slice (some a) 0 cap)] H cnt r H' cnt'):
  HSpec P f [.vw z []] H cnt r H' cnt':=by
 refine ⟨(h1 0).1,fun w X loc cargs hr hvl=>?_⟩
 obtain ⟨hl,hv⟩:=hvl
 obtain ⟨v,hcv⟩:∃ v,cargs.toList=[v]:=by
  match hm:cargs.toList,hl with
  | [v],_=>exact ⟨v,rfl⟩
 have h0:=hv 0 (.vw z []) v rfl (by rw [hcv]; rfl)
 have key:∀ a cap,v=.slice a 0 cap→VL w X (some ⟨loc,H,cnt⟩) [.sc (.slice a 0 cap)] cargs.toList:=by
  intro a cap hva
  rw [hcv,hva]
  refine ⟨rfl,fun i x y hx hy=>?_⟩
  cases i with
  | zero=>cases hx; cases hy; exact .sc rfl
  | succ i=>simp at hx
 cases h0 with
 | vw0 hz hm=>
  rename_i a cap
  cases a with
  | none=>exact (h1 cap).2 w X loc cargs hr (key none cap rfl)
  | some a=>exact (h2 a cap).2 w X loc cargs hr (key (some a) cap rfl)
 | vw1 f hne=>exact absurd rfl hne
theorem nilcaseS {P:Program} {f:FuncId} {id ver lo:Nat} {H H':List Blk} {cnt cnt':Nat} {r:AV} (hlv:(liveB H id ver).isSome=true) (h1:∀ cap,HSpec P f [.sc (.slice none 0 cap)] H cnt r H' cnt') (h2:∀ a cap,HSpec P f [.sc (.slice (some a) 0 cap)] H cnt r H' cnt'):
  HSpec P f [.sl id ver lo 0] H cnt r H' cnt':=by
 refine ⟨(h1 0).1,fun w X loc cargs hr hvl=>?_⟩
 obtain ⟨hl,hv⟩:=hvl
 obtain ⟨v,hcv⟩:∃ v,cargs.toList=[v]:=by
  match hm:cargs.toList,hl with
  | [v],_=>exact ⟨v,rfl⟩
 have h0:=hv 0 (.sl id ver lo 0) v rfl (by rw [hcv]; rfl)
 have key:∀ a cap,v=.slice a 0 cap→VL w X (some ⟨loc,H,cnt⟩) [.sc (.slice a 0 cap)] cargs.toList:=by
  intro a cap hva
  rw [hcv,hva]
  refine ⟨rfl,fun i x y hx hy=>?_⟩
  cases i with
  | zero=>cases hx; cases hy; exact .sc rfl
  | succ i=>simp at hx
 obtain ⟨B,hB⟩:=Option.isSome_iff_exists.1 hlv
 obtain ⟨g1,g2,g3⟩:=liveB_some hB
 cases h0 with
 | sl q1 q2=>
  obtain ⟨_,r2⟩:=q2 _ rfl
  obtain ⟨_,r4⟩:=r2 B g1 g2 g3
  rcases r4 with ⟨_,a,rfl⟩ | ⟨b,base,cap,n,_,rfl,_⟩
  ·cases a with
   | none=>exact (h1 0).2 w X loc cargs hr (key none 0 rfl)
   | some a=>exact (h2 a 0).2 w X loc cargs hr (key (some a) 0 rfl)
  ·exact (h2 _ cap).2 w X loc cargs hr (key _ cap rfl)
end Go.SX

namespace Go.SX
set_option linter.unusedSimpArgs false
set_option linter.unusedVariables false
def Srt (K:Nat→Int) (t:List Nat) (a b:Nat):Prop:=∀ i j,a≤i→i < j→j < b→K (t.getD j default)≤K (t.getD i default)
def Stb (K:Nat→Int) (t:List Nat):Prop:=∀ i j,i < j→j < t.length→K (t.getD i default)=K (t.getD j default)→t.getD i default < t.getD j default
structure Seg (t u:List Nat) (a b:Nat):Prop where
 len:u.length=t.length
 out:∀ i,i < a∨b≤i→u.getD i default=t.getD i default
 frm:∀ i,a≤i→i < b→∃ j,a≤j∧j < b∧u.getD i default=t.getD j default
 to:∀ i,a≤i→i < b→∃ j,a≤j∧j < b∧t.getD i default=u.getD j default
theorem Seg.refl (t:List Nat) (a b:Nat):Seg t t a b:=⟨rfl,fun _ _=>rfl,fun i h1 h2=>⟨i,h1,h2,rfl⟩,fun i h1 h2=>⟨i,h1,h2,rfl⟩⟩
theorem Seg.trans {t u v:List Nat} {a b:Nat} (h:Seg t u a b) (k:Seg u v a b):Seg t v a b where
 len:=k.len.trans h.len
 out i hi:=(k.out i hi).trans (h.out i hi)
 frm i h1 h2:=by
  obtain ⟨j,j1,j2,e⟩:=k.frm i h1 h2
  obtain ⟨l,l1,l2,e'⟩:=h.frm j j1 j2
  exact ⟨l,l1,l2,e.trans e'⟩
 to i h1 h2:=by
  obtain ⟨j,j1,j2,e⟩:=h.to i h1 h2
  obtain ⟨l,l1,l2,e'⟩:=k.to j j1 j2
  exact ⟨l,l1,l2,e.trans e'⟩
theorem Seg.wide {t u:List Nat} {a b a' b':Nat} (h:Seg t u a b) (ha:a'≤a) (hb:b≤b'):Seg t u a' b' where
 len:=h.len
 out i hi:=h.out i (by omega)
 frm i h1 h2:=by
  by_cases hi:a≤i∧i < b
  ·obtain ⟨j,j1,j2,e⟩:=h.frm i hi.1 hi.2
   exact ⟨j,by omega,by omega,e⟩
  ·exact ⟨i,h1,h2,h.out i (by omega)⟩
 to i h1 h2:=by
  by_cases hi:a≤i∧i < b
  ·obtain ⟨j,j1,j2,e⟩:=h.to i hi.1 hi.2
   exact ⟨j,by omega,by omega,e⟩
  ·exact ⟨i,h1,h2,(h.out i (by omega)).symm⟩
theorem Srt.sub {K:Nat→Int} {t:List Nat} {a b a' b':Nat} (h:Srt K t a b) (ha:a≤a') (hb:b'≤b):Srt K t a' b':=fun i j h1 h2 h3=>h i j (by omega) h2 (by omega)
theorem Srt.seg {K:Nat→Int} {t u:List Nat} {a b c d:Nat} (h:Srt K t c d) (hs:Seg t u a b) (hd:d≤a∨b≤c):Srt K u c d:=fun i j h1 h2 h3=>by
 rw [hs.out i (by omega),hs.out j (by omega)]
 exact h i j h1 h2 h3
theorem Srt.one (K:Nat→Int) (t:List Nat) {a b:Nat} (h:b≤a+1):Srt K t a b:=fun i j h1 h2 h3=>by omega
theorem getD_setN {α:Type} [Inhabited α] {l:List α} {i j:Nat} {v:α}:(l.set i v).getD j default=if i=j∧i < l.length then v else l.getD j default:=by
 rw [List.getD_eq_getElem?_getD,List.getElem?_set,List.getD_eq_getElem?_getD]
 by_cases h:i=j
 ·subst h
  by_cases h2:i < l.length
  ·simp [h2]
  ·rw [if_pos rfl,if_neg h2,if_neg (by simp [h2]),List.getElem?_eq_none (by omega)]
 ·simp [h]
def swT (t:List Nat) (i j:Nat):List Nat:=(t.set i (t.getD j default)).set j (t.getD i default)
theorem swT_len (t:List Nat) (i j:Nat):(swT t i j).length=t.length:=by simp [swT]
theorem swT_get {t:List Nat} {i j:Nat} (hi:i < t.length) (hj:j < t.length) (k:Nat):
  (swT t i j).getD k default=if k=j then t.getD i default else if k=i then t.getD j default else t.getD k default:=by
 unfold swT
 rw [getD_setN,getD_setN,List.length_set]
 by_cases h1:k=j
 ·rw [if_pos ⟨h1.symm,hj⟩,if_pos h1]
 ·rw [if_neg (fun h=>h1 h.1.symm),if_neg h1]
  by_cases h2:k=i
  ·rw [if_pos ⟨h2.symm,hi⟩,if_pos h2]
  ·rw [if_neg (fun h=>h2 h.1.symm),if_neg h2]
theorem swT_seg {t:List Nat} {i j a b:Nat} (h1:a≤i) (h2:i < b) (h3:a≤j) (h4:j < b) (hb:b≤t.length):Seg t (swT t i j) a b where
 len:=swT_len t i j
 out k hk:=by rw [swT_get (by omega) (by omega),if_neg (by omega),if_neg (by omega)]
 frm k hk hk':=by
  rw [swT_get (by omega) (by omega)]
  split
  ·exact ⟨i,h1,h2,rfl⟩
  ·split
   ·exact ⟨j,h3,h4,rfl⟩
   ·exact ⟨k,hk,hk',rfl⟩
 to k hk hk':=by
  by_cases c1:k=i
  ·refine ⟨j,h3,h4,?_⟩
   rw [swT_get (by omega) (by omega),if_pos rfl,c1]
  ·by_cases c2:k=j
   ·refine ⟨i,h1,h2,?_⟩
    rw [swT_get (by omega) (by omega)]
    by_cases c3:i=j
    ·rw [if_pos c3,c2,c3]
    ·rw [if_neg c3,if_pos rfl,c2]
   ·exact ⟨k,hk,hk',by rw [swT_get (by omega) (by omega),if_neg c2,if_neg c1]⟩
theorem Stb.swap {K:Nat→Int} {t:List Nat} {i j:Nat} (h:Stb K t) (hij:i=j+1∨j=i+1) (hi:i < t.length) (hj:j < t.length) (hk:K (t.getD i default)≠K (t.getD j default)):Stb K (swT t i j):=by
 intro p q hpq hq
 rw [swT_len] at hq
 rw [swT_get hi hj,swT_get hi hj]
 by_cases p1:p=j
 ·rw [if_pos p1]
  by_cases q1:q=j
  ·omega
  ·rw [if_neg q1]
   by_cases q2:q=i
   ·rw [if_pos q2]
    exact fun h=>absurd h hk
   ·rw [if_neg q2]
    exact fun hh=>h i q (by omega) hq hh
 ·rw [if_neg p1]
  by_cases p2:p=i
  ·rw [if_pos p2]
   by_cases q1:q=j
   ·rw [if_pos q1]
    exact fun h=>absurd h.symm hk
   ·rw [if_neg q1,if_neg (by omega)]
    exact fun hh=>h j q (by omega) hq hh
  ·rw [if_neg p2]
   by_cases q1:q=j
   ·rw [if_pos q1]
    exact fun hh=>h p i (by omega) hi hh
   ·rw [if_neg q1]
    by_cases q2:q=i
    ·rw [if_pos q2]
     exact fun hh=>h p j (by omega) hj hh
    ·rw [if_neg q2]
     exact fun hh=>h p q hpq hq hh
def But (K:Nat→Int) (t:List Nat) (a b k:Nat):Prop:=∀ p q,a≤p→p < q→q < b→p≠k→q≠k→K (t.getD q default)≤K (t.getD p default)
theorem But.of_srt {K:Nat→Int} {t:List Nat} {a k:Nat} (h:Srt K t a k):But K t a (k+1) k:=fun p q h1 h2 h3 h4 h5=>h p q h1 h2 (by omega)
theorem But.left {K:Nat→Int} {t:List Nat} {a b j:Nat} (h:But K t a b j) (h1:∀ q,j < q→q < b→K (t.getD q default)≤K (t.getD j default)) (hj:a < j) (hjb:j < b) (hb:b≤t.length)
  (hlt:K (t.getD (j - 1) default) < K (t.getD j default)):But K (swT t j (j - 1)) a b (j - 1)∧∀ q,j - 1 < q→q < b→K ((swT t j (j - 1)).getD q default)≤K ((swT t j (j - 1)).getD (j - 1) default):=by
 have hg:=swT_get (t:=t) (i:=j) (j:=j - 1) (by omega) (by omega)
 constructor
 ·intro p q p1 p2 p3 p4 p5
  rw [hg,hg,if_neg p5,if_neg p4]
  by_cases q1:q=j
  ·rw [if_pos q1,if_neg (by omega)]
   exact h p (j - 1) p1 (by omega) (by omega) (by omega) (by omega)
  ·rw [if_neg q1]
   by_cases p6:p=j
   ·rw [if_pos p6]
    exact h (j - 1) q (by omega) (by omega) p3 (by omega) q1
   ·rw [if_neg p6]
    exact h p q p1 p2 p3 p6 q1
 ·intro q q1 q2
  rw [hg,hg (j - 1),if_pos rfl,if_neg (by omega)]
  by_cases q3:q=j
  ·rw [if_pos q3]; omega
  ·rw [if_neg q3]
   exact h1 q (by omega) q2
theorem But.done {K:Nat→Int} {t:List Nat} {a b j:Nat} (h:But K t a b j) (h1:∀ q,j < q→q < b→K (t.getD q default)≤K (t.getD j default)) (h2:∀ p,a≤p→p < j→j < b→K (t.getD j default)≤K (t.getD p default)):Srt K t a b:=by
 intro p q p1 p2 p3
 by_cases c1:p=j
 ·subst c1; exact h1 q p2 p3
 ·by_cases c2:q=j
  ·subst c2; exact h2 p p1 p2 p3
  ·exact h p q p1 p2 p3 c1 c2
theorem But.right {K:Nat→Int} {t:List Nat} {a b j:Nat} (h:But K t a b j) (h1:∀ p,a≤p→p < j→K (t.getD j default)≤K (t.getD p default)) (hj:a≤j) (hjb:j+1 < b) (hb:b≤t.length)
  (hlt:K (t.getD j default) < K (t.getD (j+1) default)):But K (swT t j (j+1)) a b (j+1)∧∀ p,a≤p→p < j+1→K ((swT t j (j+1)).getD (j+1) default)≤K ((swT t j (j+1)).getD p default):=by
 have hg:=swT_get (t:=t) (i:=j) (j:=j+1) (by omega) (by omega)
 constructor
 ·intro p q p1 p2 p3 p4 p5
  rw [hg,hg,if_neg p5,if_neg p4]
  by_cases q1:q=j
  ·rw [if_pos q1,if_neg (by omega)]
   exact h p (j+1) p1 (by omega) (by omega) (by omega) (by omega)
  ·rw [if_neg q1]
   by_cases p6:p=j
   ·rw [if_pos p6]
    exact h (j+1) q (by omega) (by omega) p3 (by omega) q1
   ·rw [if_neg p6]
    exact h p q p1 p2 p3 p6 q1
 ·intro p p1 p2
  rw [hg p,hg (j+1),if_pos rfl,if_neg (by omega)]
  by_cases q3:p=j
  ·rw [if_pos q3]; omega
  ·rw [if_neg q3]
   exact h1 p p1 (by omega)
def Rot (t u:List Nat) (a m b:Nat):Prop:=u.length=t.length∧∀ i,u.getD i default=if i < a∨b≤i then t.getD i default else if i < a+(b - m) then t.getD (i+(m - a)) default else t.getD (i - (b - m)) default
theorem Rot.seg {t u:List Nat} {a m b:Nat} (h:Rot t u a m b) (h1:a≤m) (h2:m≤b):Seg t u a b where
 len:=h.1
 out i hi:=by rw [h.2,if_pos hi]
 frm i hi hi':=by
  rw [h.2,if_neg (by omega)]
  split
  ·exact ⟨_,by omega,by omega,rfl⟩
  ·exact ⟨_,by omega,by omega,rfl⟩
 to i hi hi':=by
  by_cases c:i < m
  ·refine ⟨i+(b - m),by omega,by omega,?_⟩
   rw [h.2,if_neg (by omega),if_neg (by omega)]
   congr 1; omega
  ·refine ⟨i - (m - a),by omega,by omega,?_⟩
   rw [h.2,if_neg (by omega),if_pos (by omega)]
   congr 1; omega
end Go.SX

namespace Go.SX
set_option linter.unusedSimpArgs false
set_option linter.unusedVariables false
def insI (K:Nat→Int) (a:Nat):Nat→List Nat→List Nat
 | 0,t=>t
 | j+1,t=>if a < j+1∧K (t.getD j default) < K (t.getD (j+1) default) then insI K a j (swT t (j+1) j) else t
def insO (K:Nat→Int) (a:Nat) (t:List Nat):Nat→List Nat
 | 0=>t
 | m+1=>insI K a (a+m+1) (insO K a t m)
def insF (K:Nat→Int) (t:List Nat) (a b:Nat):List Nat:=insO K a t (b - a - 1)
theorem insI_ok {K:Nat→Int} {a b:Nat}:∀ (j:Nat) (t:List Nat),a≤j→j < b→b≤t.length→But K t a b j→(∀ q,j < q→q < b→K (t.getD q default)≤K (t.getD j default))→Stb K t→
  Seg t (insI K a j t) a b∧Srt K (insI K a j t) a b∧Stb K (insI K a j t)
 | 0,t,h1,h2,h3,h4,h5,h6=>by
  rw [insI]
  exact ⟨.refl _ _ _,h4.done h5 (fun p h7 h8=>by omega),h6⟩
 | j+1,t,h1,h2,h3,h4,h5,h6=>by
  rw [insI]
  by_cases hc:a < j+1∧K (t.getD j default) < K (t.getD (j+1) default)
  ·rw [if_pos hc]
   obtain ⟨g1,g2⟩:=h4.left h5 hc.1 h2 h3 (by simpa using hc.2)
   simp only [Nat.add_sub_cancel] at g1 g2
   obtain ⟨k1,k2,k3⟩:=insI_ok j (swT t (j+1) j) (by omega) (by omega) (by rw [swT_len]; exact h3) g1 g2 (h6.swap (.inl rfl) (by omega) (by omega) (by omega))
   exact ⟨(swT_seg (by omega) h2 (by omega) (by omega) h3).trans k1,k2,k3⟩
  ·rw [if_neg hc]
   refine ⟨.refl _ _ _,h4.done h5 (fun p h7 h8 h9=>?_),h6⟩
   have hlt:a < j+1:=by omega
   have hk:¬ K (t.getD j default) < K (t.getD (j+1) default):=fun h=>hc ⟨hlt,h⟩
   by_cases hp:p=j
   ·rw [hp]; omega
   ·have:=h4 p j h7 (by omega) (by omega) (by omega) (by omega)
    omega
theorem insO_ok {K:Nat→Int} {a:Nat} {t:List Nat} (hs:Stb K t):∀ m,a+m+1≤t.length→Seg t (insO K a t m) a (a+m+1)∧Srt K (insO K a t m) a (a+m+1)∧Stb K (insO K a t m)
 | 0,_=>⟨.refl _ _ _,.one _ _ (by omega),hs⟩
 | m+1,h=>by
  obtain ⟨h1,h2,h3⟩:=insO_ok (K:=K) (a:=a) hs m (by omega)
  rw [insO]
  obtain ⟨k1,k2,k3⟩:=insI_ok (K:=K) (a:=a) (b:=a+m+1+1) (a+m+1) (insO K a t m) (by omega) (by omega) (by rw [h1.len]; omega) (.of_srt h2) (fun q q1 q2=>by omega) h3
  exact ⟨(h1.wide (Nat.le_refl _) (by omega)).trans k1,k2,k3⟩
theorem insF_ok {K:Nat→Int} {a b:Nat} {t:List Nat} (hs:Stb K t) (hb:b≤t.length):Seg t (insF K t a b) a b∧Srt K (insF K t a b) a b∧Stb K (insF K t a b):=by
 unfold insF
 by_cases h:a+1≤b
 ·have:=insO_ok (K:=K) (a:=a) hs (b - a - 1) (by omega)
  rwa [show a+(b - a - 1)+1=b by omega] at this
 ·rw [show b - a - 1=0 by omega]
  exact ⟨.refl _ _ _,.one _ _ (by omega),hs⟩
end Go.SX

namespace Go.SX
set_option linter.unusedSimpArgs false
set_option linter.unusedVariables false
end Go.SX
