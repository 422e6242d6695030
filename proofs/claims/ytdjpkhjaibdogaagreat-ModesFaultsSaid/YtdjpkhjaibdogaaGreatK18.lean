/-
  Lemmas towards ModesFaults (joined texts: SYI, SXI, SYG, SXT, SXU, SXV, SYJ, SYK).
  Conditions: none.
-/
import Derived.Test.YtdjpkhjaibdogaaGreatK01
import Derived.Test.YtdjpkhjaibdogaaGreatK14
import Derived.Test.YtdjpkhjaibdogaaGreatK11
import Derived.Test.YtdjpkhjaibdogaaGreatK15
import Derived.Laws.BytesString
import Derived.Laws.Cells
set_option linter.unusedSimpArgs false
set_option linter.unusedVariables false
set_option maxRecDepth 100000
namespace Go.SX
open Go.RowKit (Below)
inductive NwV (id ver:Nat):AV→AV→Prop
 | refl (v:AV):NwV id ver v v
 | nil:NwV id ver (.vw true []) (.sl id ver 0 0)
 | nil0:NwV id ver (.sc (.slice none 0 0)) (.sl id ver 0 0)
 | ag {cs ds:List AV} (hl:cs.length=ds.length) (h:∀ (i:Nat) (c d:AV),cs[i]?=some c→ds[i]?=some d→NwV id ver c d):NwV id ver (.ag cs) (.ag ds)
def Xv (id ver:Nat):List AV→List AV→Prop
 | [],[]=>True
 | x::l,y::m=>NwV id ver x y∧Xv id ver l m
 | _,_=>False
theorem Gc {id ver:Nat}:∀ {l m:List AV},Xv id ver l m→l.length=m.length∧∀ (i:Nat) (c d:AV),l[i]?=some c→m[i]?=some d→NwV id ver c d
 | [],[],_=>⟨rfl,fun i c d h=>by simp at h⟩
 | x::l,y::m,h=>by
  obtain ⟨h1,h2⟩:=Gc h.2
  refine ⟨by simp [h1],fun i c d hc hd=>?_⟩
  cases i with
  | zero=>simp at hc hd; subst hc; subst hd; exact h.1
  | succ i=>simp at hc hd; exact h2 i c d hc hd
 | [],_::_,h=>h.elim
 | _::_,[],h=>h.elim
theorem Ct (id ver:Nat):∀ l:List AV,Xv id ver l l
 | []=>trivial
 | x::l=>⟨.refl x,Ct id ver l⟩
theorem Jr {id ver:Nat} {cs ds:List AV} (h:Xv id ver cs ds):NwV id ver (.ag cs) (.ag ds):=.ag (Gc h).1 (Gc h).2
def NwB (id ver:Nat) (a b:Blk):Prop:=a=b∨b.live=false∨(a.live=b.live∧a.ver=b.ver∧a.ty=b.ty∧a.esz=b.esz∧Xv id ver a.els b.els)
def NwH (id ver:Nat):List Blk→List Blk→Prop
 | [],[]=>True
 | a::l,b::m=>NwB id ver a b∧NwH id ver l m
 | _,_=>False
theorem S6 {id ver:Nat}:∀ {l m:List Blk},NwH id ver l m→l.length=m.length∧∀ (i:Nat) (c d:Blk),l[i]?=some c→m[i]?=some d→NwB id ver c d
 | [],[],_=>⟨rfl,fun i c d h=>by simp at h⟩
 | x::l,y::m,h=>by
  obtain ⟨h1,h2⟩:=S6 h.2
  refine ⟨by simp [h1],fun i c d hc hd=>?_⟩
  cases i with
  | zero=>simp at hc hd; subst hc; subst hd; exact h.1
  | succ i=>simp at hc hd; exact h2 i c d hc hd
 | [],_::_,h=>h.elim
 | _::_,[],h=>h.elim
theorem LJ (id ver:Nat):∀ l:List Blk,NwH id ver l l
 | []=>trivial
 | x::l=>⟨.inl rfl,LJ id ver l⟩
theorem Agr {id ver:Nat} {x y:AV} (h:NwV id ver x y):x.cells.length=y.cells.length∧∀ (i:Nat) (c d:AV),x.cells[i]?=some c→y.cells[i]?=some d→NwV id ver c d:=by
 cases h with
 | refl=>exact ⟨rfl,fun i c d hc hd=>by rw [hc] at hd; cases hd; exact .refl _⟩
 | nil=>
  refine ⟨rfl,fun i c d hc hd=>?_⟩
  cases i with
  | zero=>simp [AV.cells] at hc hd; subst hc; subst hd; exact .nil
  | succ i=>simp [AV.cells] at hc
 | nil0=>
  refine ⟨rfl,fun i c d hc hd=>?_⟩
  cases i with
  | zero=>simp [AV.cells] at hc hd; subst hc; subst hd; exact .nil0
  | succ i=>simp [AV.cells] at hc
 | ag hl h=>exact ⟨hl,h⟩
theorem Ap6 {w:World} {X:Nat→Prop} {hc hc':HC} {id ver ty esz:Nat} (ev:Evo w X hc w X hc') (hr:HR w X hc) (hv':ver < hc'.cnt) (hid:hc'.H[id]?=some ⟨true,ver,ty,esz,[],false⟩)
  {x y:AV} {v:Value} (h:NwV id ver x y) (hv:VR w X (some hc) x v):VR w X (some hc') y v:=by
 induction h generalizing v with
 | refl=>exact hv.mono ev hr
 | nil=>
  cases hv with
  | vw0 hz hm=>
   rename_i a cap
   obtain rfl:=hz rfl
   exact Anp
  | vw1 f hne=>exact absurd rfl hne
 | nil0=>
  cases hv with
  | sc h=>
   exact Anp
 | ag hl h ih=>
  cases hv with
  | ag hl' h1 h2=>
   exact Aus
theorem Ax3 {w:World} {X:Nat→Prop} {loc:Nat→Option (Nat × Nat)} {act:Act} {T T':List AV} {H H':List Blk} {c c' ver ty esz:Nat} (hs:SR w X loc ⟨T,H,c⟩ act) (hv:c≤ver) (hv':ver < c')
  (hT:Xv H.length ver T T') (hH:NwH H.length ver H H'):
  ∃ X' loc',SR w X' loc' ⟨T',H'++[⟨true,ver,ty,esz,[],false⟩],c'⟩ act∧∀ w0 X0 BW,Evo w0 X0 BW w X ((⟨T,H,c⟩:St).hc loc)→Evo w0 X0 BW w X' ((⟨T',H'++[⟨true,ver,ty,esz,[],false⟩],c'⟩:St).hc loc'):=by
 obtain ⟨h1,h2,h3⟩:=hs
 obtain ⟨hl,hg⟩:=S6 hH
 have hnew:∀ k (B:Blk),(H'++[(⟨true,ver,ty,esz,[],false⟩:Blk)])[k]?=some B→(k < H'.length∧H'[k]?=some B)∨(k=H'.length∧B=⟨true,ver,ty,esz,[],false⟩):=by
  intro k B hk
  rw [lx18] at hk
  split at hk
  ·rename_i hl; exact .inl ⟨hl,hk⟩
  ·rename_i hl
   exact Ann
 have key:∀ (k:Nat) (B:Blk),H'[k]?=some B→B.live=true→∃ A,H[k]?=some A∧A.live=true∧A.ver=B.ver∧A.ty=B.ty∧A.esz=B.esz∧Xv H.length ver A.els B.els:=by
  exact Aub
 have ev:Evo w X ⟨loc,H,c⟩ w X ⟨fun k=>if k=H'.length then none else loc k,H'++[⟨true,ver,ty,esz,[],false⟩],c'⟩:=by
  refine ⟨rfl,rfl,rfl,Ax _,fun _ _ _=>rfl,fun _ _ hs=>hs,fun _ _=>Iff.rfl,by simp only; omega,?_,?_⟩
  ·intro id B' e1 e2 e3
   simp only at e1 e3 ⊢
   rcases hnew id B' e1 with ⟨hl',e1⟩ | ⟨rfl,rfl⟩
   ·obtain ⟨A,g1,g2,g3,g4,g5,g6⟩:=key id B' e1 e2
    exact ⟨A,g1,g2,g3,by rw [if_neg (by omega)],g5,g4,(Gc g6).1⟩
   ·simp only at e3; omega
  ·intro id B' b o e1 e2 e3 e4
   simp only at e1 e3 ⊢
   rcases hnew id B' e1 with ⟨hl',e1⟩ | ⟨rfl,rfl⟩
   ·rw [if_neg (by omega)] at e3
    obtain ⟨A,g1,g2,_⟩:=key id B' e1 e2
    exact ⟨A,o,g1,g2,e3⟩
   ·rw [if_pos rfl] at e3; cases e3
 have hid:(H'++[(⟨true,ver,ty,esz,[],false⟩:Blk)])[H.length]?=some ⟨true,ver,ty,esz,[],false⟩:=by rw [hl,lx62 (Ax _)]; simp
 have hvr:∀ {x y:AV} {v:Value},NwV H.length ver x y→VR w X (some ⟨loc,H,c⟩) x v→VR w X (some ⟨fun k=>if k=H'.length then none else loc k,H'++[⟨true,ver,ty,esz,[],false⟩],c'⟩) y v:=
  fun h hv=>Ap6 ev h1 (by exact hv') hid h hv
 refine ⟨X,fun k=>if k=H'.length then none else loc k,⟨⟨?_,?_,h1.lt⟩,?_,h3⟩,fun w0 X0 BW he=>he.trans ev⟩
 ·intro id B e1 e2
  rcases hnew id B e1 with ⟨hl',e1⟩ | ⟨rfl,rfl⟩
  ·obtain ⟨A,k1,k2,k3,k4,k5,k6⟩:=key id B e1 e2
   obtain ⟨g1,g2,g3⟩:=h1.blk id A k1 k2
   have g1':A.ver < c:=g1
   have hlen:=(Gc k6).1
   refine ⟨by simp only [St.hc]; omega,by rw [←hlen]; exact g2,?_⟩
   show match (if id=H'.length then none else loc id) with
    | none=>B.els=[]
    | some (b,base)=>X b∧(∃ cs,w.heap[b]?=some (.cells cs B.ty (0,0)))∧ElsOk w X ⟨fun k=>if k=H'.length then none else loc k,H'++[⟨true,ver,ty,esz,[],false⟩],c'⟩ b base B
   rw [if_neg (by omega)]
   have g3':match loc id with
    | none=>A.els=[]
    | some (b,base)=>X b∧(∃ cs,w.heap[b]?=some (.cells cs A.ty (0,0)))∧ElsOk w X ⟨loc,H,c⟩ b base A:=g3
   cases hlc:loc id with
   | none=>
    rw [hlc] at g3'
    exact Adn
   | some p=>
    exact Au4
  ·refine ⟨hv',by simp [Dr],?_⟩
   simp only [St.hc,lx6]
 ·intro j j' B1 B2 b' o o' e1 e2 e3 e4 e5 e6
  simp only [St.hc] at e1 e2 e5 e6
  rcases hnew j B1 e1 with ⟨hl1,e1⟩ | ⟨rfl,rfl⟩
  ·rcases hnew j' B2 e2 with ⟨hl2,e2⟩ | ⟨rfl,rfl⟩
   ·rw [if_neg (by omega)] at e5 e6
    exact Ao1
   ·rw [if_pos rfl] at e6; cases e6
  ·rw [if_pos rfl] at e5; cases e5
 ·obtain ⟨e1,e2⟩:=Gc hT
  exact Aqo
theorem Ix {P:Program} {E:Env} {n0:Nat} {rs:List ResultVar} {R:AV→St→Prop} {k:List Item} {T T':List AV} {H H':List Blk} {c:Nat} (ver ty esz c':Nat) (hv:c≤ver) (hv':ver < c')
  (hT:Xv H.length ver T T') (hH:NwH H.length ver H H') (h:Go P E n0 rs R k ⟨T',H'++[⟨true,ver,ty,esz,[],false⟩],c'⟩):Go P E n0 rs R k ⟨T,H,c⟩:=
 .ghost (s':=⟨T',H'++[⟨true,ver,ty,esz,[],false⟩],c'⟩) (fun w X loc act hs=>by
  obtain ⟨X',loc',h1,h2⟩:=Ax3 (ty:=ty) (esz:=esz) hs hv hv' hT hH
  exact ⟨X',loc',h1,fun w0 X0 BW _ he=>h2 w0 X0 BW he⟩) h
theorem ZR (id ver:Nat):Xv id ver [] []=True:=rfl
theorem V7 (id ver:Nat) (x y:AV) (l m:List AV):Xv id ver (x::l) (y::m)=(NwV id ver x y∧Xv id ver l m):=rfl
theorem Al6 (id ver:Nat):NwH id ver [] []=True:=rfl
theorem Ags (id ver:Nat) (x y:Blk) (l m:List Blk):NwH id ver (x::l) (y::m)=(NwB id ver x y∧NwH id ver l m):=rfl
theorem V8 (id ver:Nat) (v:AV):NwV id ver v v=True:=eq_true (.refl v)
theorem ZS (id ver:Nat):NwV id ver (.vw true []) (.sl id ver 0 0)=True:=eq_true .nil
theorem Iy (id ver v t e:Nat) (l p q:Bool) (es es':List AV) (h:Xv id ver es es'):NwB id ver ⟨l,v,t,e,es,p⟩ ⟨l,v,t,e,es',q⟩:=.inr (.inr ⟨rfl,rfl,rfl,rfl,h⟩)
end Go.SX
namespace Go.SX
theorem S7 (n a:Nat) (h:a < 2 ^ n):(BitVec.ofInt n (a:Int)).toNat=a:=by
 rw [BitVec.ofInt_natCast,BitVec.toNat_ofNat,Nat.mod_eq_of_lt h]
theorem JU (H:List Blk) (a b:Blk):(H++[a]).set H.length b=H++[b]:=by
 rw [lx119 _ _ (Ax _),K3]; rfl
theorem Ax4 {P:Program} {f:FuncId} {args:List AV} {H H':List Blk} {cnt cnt1:Nat} (h:HSpec P f args H cnt (.vw true []) H' cnt1) (ver ty esz cnt':Nat) (hv:cnt1≤ver) (hv':ver < cnt'):
  HSpec P f args H cnt (.sl H'.length ver 0 0) (H'++[⟨true,ver,ty,esz,[],false⟩]) cnt':=by
 obtain ⟨hc,h⟩:=h
 refine ⟨hc,fun w X loc cargs hr hvl=>(h w X loc cargs hr hvl).mono ?_⟩
 rintro e w' ⟨X',loc',c,he,hr',hvr,hev⟩
 have hlt:∀ k (B:Blk),H'[k]?=some B→k < H'.length:=fun k B hk=>(lx22.1 hk).1
 have hnew:∀ k (B:Blk),(H'++[(⟨true,ver,ty,esz,[],false⟩:Blk)])[k]?=some B→(k < H'.length∧H'[k]?=some B)∨(k=H'.length∧B=⟨true,ver,ty,esz,[],false⟩):=by
  intro k B hk
  rw [lx18] at hk
  split at hk
  ·rename_i hl; exact .inl ⟨hl,hk⟩
  ·rename_i hl
   exact Ann
 have hevo:Evo w' X' ⟨loc',H',cnt1⟩ w' X' ⟨fun k=>if k=H'.length then none else loc' k,H'++[⟨true,ver,ty,esz,[],false⟩],cnt'⟩:=by
  refine ⟨rfl,rfl,rfl,Ax _,fun _ _ _=>rfl,fun _ _ hs=>hs,fun _ _=>Iff.rfl,by simp only; omega,?_,?_⟩
  ·intro id B' h1 h2 h3
   simp only at h1 h3 ⊢
   rcases hnew id B' h1 with ⟨hl,h1⟩ | ⟨rfl,rfl⟩
   ·exact ⟨B',h1,h2,rfl,by rw [if_neg (by omega)],rfl,rfl,rfl⟩
   ·simp only at h3; omega
  ·intro id B' b o h1 h2 h3 h4
   simp only at h1 h3 ⊢
   rcases hnew id B' h1 with ⟨hl,h1⟩ | ⟨rfl,rfl⟩
   ·rw [if_neg (by omega)] at h3
    exact ⟨B',o,h1,h2,h3⟩
   ·rw [if_pos rfl] at h3; cases h3
 refine ⟨X',_,c,he,?_,?_,hev.trans hevo⟩
 ·refine ⟨?_,?_,hr'.lt⟩
  ·intro id B h1 h2
   rcases hnew id B h1 with ⟨hl,h1⟩ | ⟨rfl,rfl⟩
   ·obtain ⟨g1,g2,g3⟩:=hr'.blk id B h1 h2
    simp only at g1 g3 ⊢
    refine ⟨by omega,g2,?_⟩
    rw [if_neg (by omega)]
    split at g3
    ·exact g3
    ·rename_i b base hn
     obtain ⟨k1,k2,k3⟩:=g3
     refine ⟨k1,k2,fun i e he=>?_⟩
     obtain ⟨q1,q2⟩:=k3 i e he
     refine ⟨q1,fun j a ha=>?_⟩
     obtain ⟨c,e1,e2,e3⟩:=q2 j a ha
     exact ⟨c,e1,e2,e3.mono hevo hr'⟩
   ·refine ⟨hv',by simp [Dr],?_⟩
    simp only [lx6]
  ·intro id id' B B' b o o' h1 h2 h3 h4 h5 h6
   simp only at h1 h2 h5 h6
   rcases hnew id B h1 with ⟨hl,h1⟩ | ⟨rfl,rfl⟩
   ·rcases hnew id' B' h2 with ⟨hl',h2⟩ | ⟨rfl,rfl⟩
    ·rw [if_neg (by omega)] at h5 h6
     exact hr'.inj id id' B B' b o o' h1 h2 h3 h4 h5 h6
    ·rw [if_pos rfl] at h6; cases h6
   ·rw [if_pos rfl] at h5; cases h5
 ·cases hvr with
  | vw0 hz hm=>
   rename_i a cap
   obtain rfl:=hz rfl
   refine .sl ⟨_,_,rfl⟩ fun hc1 h1=>?_
   cases h1
   refine ⟨hv',fun B h1 _ _=>?_⟩
   simp only at h1
   rcases hnew _ B h1 with ⟨hl,_⟩ | ⟨_,rfl⟩
   ·omega
   ·exact ⟨by simp,.inl ⟨rfl,_,rfl⟩⟩
  | vw1 f hne=>exact absurd rfl hne
theorem NZ {P:Program} {f:FuncId} {z:Bool} {H H':List Blk} {cnt cnt':Nat} {r:AV} (h1:∀ cap,HSpec P f [.sc (.slice none 0 cap)] H cnt r H' cnt') (h2:∀ a cap,HSpec P f [.sc (.slice (some a) 0 cap)] H cnt r H' cnt'):
  HSpec P f [.vw z []] H cnt r H' cnt':=by
 refine ⟨(h1 0).1,fun w X loc cargs hr hvl=>?_⟩
 obtain ⟨hl,hv⟩:=hvl
 obtain ⟨v,hcv⟩:∃ v,cargs.toList=[v]:=by
  match hm:cargs.toList,hl with
  | [v],_=>exact ⟨v,rfl⟩
 have h0:=hv 0 (.vw z []) v rfl (by rw [hcv]; rfl)
 have key:∀ a cap,v=.slice a 0 cap→VL w X (some ⟨loc,H,cnt⟩) [.sc (.slice a 0 cap)] cargs.toList:=by
  intro a cap hva
  rw [hcv,hva]
  refine ⟨rfl,fun i x y hx hy=>?_⟩
  cases i with
  | zero=>cases hx; cases hy; exact .sc rfl
  | succ i=>simp at hx
 cases h0 with
 | vw0 hz hm=>
  rename_i a cap
  cases a with
  | none=>exact (h1 cap).2 w X loc cargs hr (key none cap rfl)
  | some a=>exact (h2 a cap).2 w X loc cargs hr (key (some a) cap rfl)
 | vw1 f hne=>exact absurd rfl hne
theorem V9 {P:Program} {f:FuncId} {id ver lo:Nat} {H H':List Blk} {cnt cnt':Nat} {r:AV} (hlv:(AE H id ver).isSome=true) (h1:∀ cap,HSpec P f [.sc (.slice none 0 cap)] H cnt r H' cnt') (h2:∀ a cap,HSpec P f [.sc (.slice (some a) 0 cap)] H cnt r H' cnt'):
  HSpec P f [.sl id ver lo 0] H cnt r H' cnt':=by
 refine ⟨(h1 0).1,fun w X loc cargs hr hvl=>?_⟩
 obtain ⟨hl,hv⟩:=hvl
 obtain ⟨v,hcv⟩:∃ v,cargs.toList=[v]:=by
  match hm:cargs.toList,hl with
  | [v],_=>exact ⟨v,rfl⟩
 have h0:=hv 0 (.sl id ver lo 0) v rfl (by rw [hcv]; rfl)
 have key:∀ a cap,v=.slice a 0 cap→VL w X (some ⟨loc,H,cnt⟩) [.sc (.slice a 0 cap)] cargs.toList:=by
  intro a cap hva
  rw [hcv,hva]
  refine ⟨rfl,fun i x y hx hy=>?_⟩
  cases i with
  | zero=>cases hx; cases hy; exact .sc rfl
  | succ i=>simp at hx
 obtain ⟨B,hB⟩:=Option.isSome_iff_exists.1 hlv
 obtain ⟨g1,g2,g3⟩:=Ba hB
 cases h0 with
 | sl q1 q2=>
  obtain ⟨_,r2⟩:=q2 _ rfl
  obtain ⟨_,r4⟩:=r2 B g1 g2 g3
  rcases r4 with ⟨_,a,rfl⟩ | ⟨b,base,cap,n,_,rfl,_⟩
  ·cases a with
   | none=>exact (h1 0).2 w X loc cargs hr (key none 0 rfl)
   | some a=>exact (h2 a 0).2 w X loc cargs hr (key (some a) 0 rfl)
  ·exact (h2 _ cap).2 w X loc cargs hr (key _ cap rfl)
def Srt (K:Nat→Int) (t:List Nat) (a b:Nat):Prop:=∀ i j,a≤i→i < j→j < b→K (t.getD j default)≤K (t.getD i default)
def Stb (K:Nat→Int) (t:List Nat):Prop:=∀ i j,i < j→j < t.length→K (t.getD i default)=K (t.getD j default)→t.getD i default < t.getD j default
structure Seg (t u:List Nat) (a b:Nat):Prop where
 len:u.length=t.length
 out:∀ i,i < a∨b≤i→u.getD i default=t.getD i default
 frm:∀ i,a≤i→i < b→∃ j,a≤j∧j < b∧u.getD i default=t.getD j default
 to:∀ i,a≤i→i < b→∃ j,a≤j∧j < b∧t.getD i default=u.getD j default
theorem Seg.refl (t:List Nat) (a b:Nat):Seg t t a b:=⟨rfl,fun _ _=>rfl,fun i h1 h2=>⟨i,h1,h2,rfl⟩,fun i h1 h2=>⟨i,h1,h2,rfl⟩⟩
theorem Seg.trans {t u v:List Nat} {a b:Nat} (h:Seg t u a b) (k:Seg u v a b):Seg t v a b where
 len:=k.len.trans h.len
 out i hi:=(k.out i hi).trans (h.out i hi)
 frm i h1 h2:=by
  obtain ⟨j,j1,j2,e⟩:=k.frm i h1 h2
  obtain ⟨l,l1,l2,e'⟩:=h.frm j j1 j2
  exact ⟨l,l1,l2,e.trans e'⟩
 to i h1 h2:=by
  obtain ⟨j,j1,j2,e⟩:=h.to i h1 h2
  obtain ⟨l,l1,l2,e'⟩:=k.to j j1 j2
  exact ⟨l,l1,l2,e.trans e'⟩
theorem Seg.wide {t u:List Nat} {a b a' b':Nat} (h:Seg t u a b) (ha:a'≤a) (hb:b≤b'):Seg t u a' b' where
 len:=h.len
 out i hi:=h.out i (by omega)
 frm i h1 h2:=by
  by_cases hi:a≤i∧i < b
  ·obtain ⟨j,j1,j2,e⟩:=h.frm i hi.1 hi.2
   exact ⟨j,by omega,by omega,e⟩
  ·exact ⟨i,h1,h2,h.out i (by omega)⟩
 to i h1 h2:=by
  by_cases hi:a≤i∧i < b
  ·obtain ⟨j,j1,j2,e⟩:=h.to i hi.1 hi.2
   exact ⟨j,by omega,by omega,e⟩
  ·exact ⟨i,h1,h2,(h.out i (by omega)).symm⟩
theorem Srt.sub {K:Nat→Int} {t:List Nat} {a b a' b':Nat} (h:Srt K t a b) (ha:a≤a') (hb:b'≤b):Srt K t a' b':=fun i j h1 h2 h3=>h i j (by omega) h2 (by omega)
theorem Srt.seg {K:Nat→Int} {t u:List Nat} {a b c d:Nat} (h:Srt K t c d) (hs:Seg t u a b) (hd:d≤a∨b≤c):Srt K u c d:=fun i j h1 h2 h3=>by
 rw [hs.out i (by omega),hs.out j (by omega)]
 exact h i j h1 h2 h3
theorem Srt.one (K:Nat→Int) (t:List Nat) {a b:Nat} (h:b≤a+1):Srt K t a b:=fun i j h1 h2 h3=>by omega
theorem RT {α:Type} [Inhabited α] {l:List α} {i j:Nat} {v:α}:(l.set i v).getD j default=if i=j∧i < l.length then v else l.getD j default:=by
 rw [lx80,lx21,lx80]
 by_cases h:i=j
 ·subst h
  by_cases h2:i < l.length
  ·simp [h2]
  ·rw [if_pos rfl,if_neg h2,if_neg (by simp [h2]),lx30 (by omega)]
 ·simp [h]
def TJ (t:List Nat) (i j:Nat):List Nat:=(t.set i (t.getD j default)).set j (t.getD i default)
theorem S8 (t:List Nat) (i j:Nat):(TJ t i j).length=t.length:=by simp [TJ]
theorem Gz {t:List Nat} {i j:Nat} (hi:i < t.length) (hj:j < t.length) (k:Nat):
  (TJ t i j).getD k default=if k=j then t.getD i default else if k=i then t.getD j default else t.getD k default:=by
 unfold TJ
 rw [RT,RT,lx2]
 by_cases h1:k=j
 ·rw [if_pos ⟨h1.symm,hj⟩,if_pos h1]
 ·rw [if_neg (fun h=>h1 h.1.symm),if_neg h1]
  by_cases h2:k=i
  ·rw [if_pos ⟨h2.symm,hi⟩,if_pos h2]
  ·rw [if_neg (fun h=>h2 h.1.symm),if_neg h2]
theorem ZV {t:List Nat} {i j a b:Nat} (h1:a≤i) (h2:i < b) (h3:a≤j) (h4:j < b) (hb:b≤t.length):Seg t (TJ t i j) a b where
 len:=S8 t i j
 out k hk:=by rw [Gz (by omega) (by omega),if_neg (by omega),if_neg (by omega)]
 frm k hk hk':=by
  rw [Gz (by omega) (by omega)]
  split
  ·exact ⟨i,h1,h2,rfl⟩
  ·split
   ·exact ⟨j,h3,h4,rfl⟩
   ·exact ⟨k,hk,hk',rfl⟩
 to k hk hk':=by
  by_cases c1:k=i
  ·refine ⟨j,h3,h4,?_⟩
   rw [Gz (by omega) (by omega),if_pos rfl,c1]
  ·by_cases c2:k=j
   ·refine ⟨i,h1,h2,?_⟩
    rw [Gz (by omega) (by omega)]
    by_cases c3:i=j
    ·rw [if_pos c3,c2,c3]
    ·rw [if_neg c3,if_pos rfl,c2]
   ·exact ⟨k,hk,hk',by rw [Gz (by omega) (by omega),if_neg c2,if_neg c1]⟩
theorem Stb.swap {K:Nat→Int} {t:List Nat} {i j:Nat} (h:Stb K t) (hij:i=j+1∨j=i+1) (hi:i < t.length) (hj:j < t.length) (hk:K (t.getD i default)≠K (t.getD j default)):Stb K (TJ t i j):=by
 intro p q hpq hq
 rw [S8] at hq
 rw [Gz hi hj,Gz hi hj]
 by_cases p1:p=j
 ·rw [if_pos p1]
  by_cases q1:q=j
  ·omega
  ·rw [if_neg q1]
   by_cases q2:q=i
   ·rw [if_pos q2]
    exact fun h=>absurd h hk
   ·rw [if_neg q2]
    exact fun hh=>h i q (by omega) hq hh
 ·rw [if_neg p1]
  by_cases p2:p=i
  ·rw [if_pos p2]
   by_cases q1:q=j
   ·rw [if_pos q1]
    exact fun h=>absurd h.symm hk
   ·rw [if_neg q1,if_neg (by omega)]
    exact fun hh=>h j q (by omega) hq hh
  ·rw [if_neg p2]
   by_cases q1:q=j
   ·rw [if_pos q1]
    exact fun hh=>h p i (by omega) hi hh
   ·rw [if_neg q1]
    by_cases q2:q=i
    ·rw [if_pos q2]
     exact fun hh=>h p j (by omega) hj hh
    ·rw [if_neg q2]
     exact fun hh=>h p q hpq hq hh
def But (K:Nat→Int) (t:List Nat) (a b k:Nat):Prop:=∀ p q,a≤p→p < q→q < b→p≠k→q≠k→K (t.getD q default)≤K (t.getD p default)
theorem But.of_srt {K:Nat→Int} {t:List Nat} {a k:Nat} (h:Srt K t a k):But K t a (k+1) k:=fun p q h1 h2 h3 h4 h5=>h p q h1 h2 (by omega)
theorem But.left {K:Nat→Int} {t:List Nat} {a b j:Nat} (h:But K t a b j) (h1:∀ q,j < q→q < b→K (t.getD q default)≤K (t.getD j default)) (hj:a < j) (hjb:j < b) (hb:b≤t.length)
  (hlt:K (t.getD (j - 1) default) < K (t.getD j default)):But K (TJ t j (j - 1)) a b (j - 1)∧∀ q,j - 1 < q→q < b→K ((TJ t j (j - 1)).getD q default)≤K ((TJ t j (j - 1)).getD (j - 1) default):=by
 have hg:=Gz (t:=t) (i:=j) (j:=j - 1) (by omega) (by omega)
 constructor
 ·intro p q p1 p2 p3 p4 p5
  rw [hg,hg,if_neg p5,if_neg p4]
  by_cases q1:q=j
  ·rw [if_pos q1,if_neg (by omega)]
   exact h p (j - 1) p1 (by omega) (by omega) (by omega) (by omega)
  ·rw [if_neg q1]
   by_cases p6:p=j
   ·rw [if_pos p6]
    exact h (j - 1) q (by omega) (by omega) p3 (by omega) q1
   ·rw [if_neg p6]
    exact h p q p1 p2 p3 p6 q1
 ·intro q q1 q2
  rw [hg,hg (j - 1),if_pos rfl,if_neg (by omega)]
  by_cases q3:q=j
  ·rw [if_pos q3]; omega
  ·rw [if_neg q3]
   exact h1 q (by omega) q2
theorem But.done {K:Nat→Int} {t:List Nat} {a b j:Nat} (h:But K t a b j) (h1:∀ q,j < q→q < b→K (t.getD q default)≤K (t.getD j default)) (h2:∀ p,a≤p→p < j→j < b→K (t.getD j default)≤K (t.getD p default)):Srt K t a b:=by
 intro p q p1 p2 p3
 by_cases c1:p=j
 ·subst c1; exact h1 q p2 p3
 ·by_cases c2:q=j
  ·subst c2; exact h2 p p1 p2 p3
  ·exact h p q p1 p2 p3 c1 c2
theorem But.right {K:Nat→Int} {t:List Nat} {a b j:Nat} (h:But K t a b j) (h1:∀ p,a≤p→p < j→K (t.getD j default)≤K (t.getD p default)) (hj:a≤j) (hjb:j+1 < b) (hb:b≤t.length)
  (hlt:K (t.getD j default) < K (t.getD (j+1) default)):But K (TJ t j (j+1)) a b (j+1)∧∀ p,a≤p→p < j+1→K ((TJ t j (j+1)).getD (j+1) default)≤K ((TJ t j (j+1)).getD p default):=by
 have hg:=Gz (t:=t) (i:=j) (j:=j+1) (by omega) (by omega)
 constructor
 ·intro p q p1 p2 p3 p4 p5
  rw [hg,hg,if_neg p5,if_neg p4]
  by_cases q1:q=j
  ·rw [if_pos q1,if_neg (by omega)]
   exact h p (j+1) p1 (by omega) (by omega) (by omega) (by omega)
  ·rw [if_neg q1]
   by_cases p6:p=j
   ·rw [if_pos p6]
    exact h (j+1) q (by omega) (by omega) p3 (by omega) q1
   ·rw [if_neg p6]
    exact h p q p1 p2 p3 p6 q1
 ·intro p p1 p2
  rw [hg p,hg (j+1),if_pos rfl,if_neg (by omega)]
  by_cases q3:p=j
  ·rw [if_pos q3]; omega
  ·rw [if_neg q3]
   exact h1 p p1 (by omega)
def Rot (t u:List Nat) (a m b:Nat):Prop:=u.length=t.length∧∀ i,u.getD i default=if i < a∨b≤i then t.getD i default else if i < a+(b - m) then t.getD (i+(m - a)) default else t.getD (i - (b - m)) default
theorem Rot.seg {t u:List Nat} {a m b:Nat} (h:Rot t u a m b) (h1:a≤m) (h2:m≤b):Seg t u a b where
 len:=h.1
 out i hi:=by rw [h.2,if_pos hi]
 frm i hi hi':=by
  rw [h.2,if_neg (by omega)]
  split
  ·exact ⟨_,by omega,by omega,rfl⟩
  ·exact ⟨_,by omega,by omega,rfl⟩
 to i hi hi':=by
  by_cases c:i < m
  ·refine ⟨i+(b - m),by omega,by omega,?_⟩
   rw [h.2,if_neg (by omega),if_neg (by omega)]
   congr 1; omega
  ·refine ⟨i - (m - a),by omega,by omega,?_⟩
   rw [h.2,if_neg (by omega),if_pos (by omega)]
   congr 1; omega
def LK (K:Nat→Int) (a:Nat):Nat→List Nat→List Nat
 | 0,t=>t
 | j+1,t=>if a < j+1∧K (t.getD j default) < K (t.getD (j+1) default) then LK K a j (TJ t (j+1) j) else t
def Qm (K:Nat→Int) (a:Nat) (t:List Nat):Nat→List Nat
 | 0=>t
 | m+1=>LK K a (a+m+1) (Qm K a t m)
def KL (K:Nat→Int) (t:List Nat) (a b:Nat):List Nat:=Qm K a t (b - a - 1)
theorem ZW {K:Nat→Int} {a b:Nat}:∀ (j:Nat) (t:List Nat),a≤j→j < b→b≤t.length→But K t a b j→(∀ q,j < q→q < b→K (t.getD q default)≤K (t.getD j default))→Stb K t→
  Seg t (LK K a j t) a b∧Srt K (LK K a j t) a b∧Stb K (LK K a j t)
 | 0,t,h1,h2,h3,h4,h5,h6=>by
  rw [LK]
  exact ⟨.refl _ _ _,h4.done h5 (fun p h7 h8=>by omega),h6⟩
 | j+1,t,h1,h2,h3,h4,h5,h6=>by
  rw [LK]
  by_cases hc:a < j+1∧K (t.getD j default) < K (t.getD (j+1) default)
  ·rw [if_pos hc]
   obtain ⟨g1,g2⟩:=h4.left h5 hc.1 h2 h3 (by simpa using hc.2)
   simp only [Nat.add_sub_cancel] at g1 g2
   obtain ⟨k1,k2,k3⟩:=ZW j (TJ t (j+1) j) (by omega) (by omega) (by rw [S8]; exact h3) g1 g2 (h6.swap (.inl rfl) (by omega) (by omega) (by omega))
   exact ⟨(ZV (by omega) h2 (by omega) (by omega) h3).trans k1,k2,k3⟩
  ·rw [if_neg hc]
   refine ⟨.refl _ _ _,h4.done h5 (fun p h7 h8 h9=>?_),h6⟩
   have hlt:a < j+1:=Ah
   have hk:¬ K (t.getD j default) < K (t.getD (j+1) default):=fun h=>hc ⟨hlt,h⟩
   by_cases hp:p=j
   ·rw [hp]; omega
   ·have:=h4 p j h7 (by omega) (by omega) (by omega) (by omega)
    omega
theorem ZY {K:Nat→Int} {a:Nat} {t:List Nat} (hs:Stb K t):∀ m,a+m+1≤t.length→Seg t (Qm K a t m) a (a+m+1)∧Srt K (Qm K a t m) a (a+m+1)∧Stb K (Qm K a t m)
 | 0,_=>⟨.refl _ _ _,.one _ _ (by omega),hs⟩
 | m+1,h=>by
  obtain ⟨h1,h2,h3⟩:=ZY (K:=K) (a:=a) hs m (by omega)
  rw [Qm]
  obtain ⟨k1,k2,k3⟩:=ZW (K:=K) (a:=a) (b:=a+m+1+1) (a+m+1) (Qm K a t m) (by omega) (by omega) (by rw [h1.len]; omega) (.of_srt h2) (fun q q1 q2=>by omega) h3
  exact ⟨(h1.wide (Ax _) (by omega)).trans k1,k2,k3⟩
theorem ZZ {K:Nat→Int} {a b:Nat} {t:List Nat} (hs:Stb K t) (hb:b≤t.length):Seg t (KL K t a b) a b∧Srt K (KL K t a b) a b∧Stb K (KL K t a b):=by
 unfold KL
 by_cases h:a+1≤b
 ·have:=ZY (K:=K) (a:=a) hs (b - a - 1) (by omega)
  rwa [show a+(b - a - 1)+1=b by omega] at this
 ·rw [show b - a - 1=0 by omega]
  exact ⟨.refl _ _ _,.one _ _ (by omega),hs⟩
end Go.SX
namespace Go.SX
open Go.RowKit (Below)
inductive Rn (d:Nat) (σ:Nat→Nat) (c2:Nat) (H1:List Blk):AV→AV→Prop
 | nr {a} (h:a.noref=true):Rn d σ c2 H1 a a
 | jk (a):Rn d σ c2 H1 a .jk
 | sl {v2} (j v lo n) (B:Blk) (hB:H1[σ j]?=some B) (hl:B.live=true) (hv:B.ver=v) (hv2:v2 < c2):Rn d σ c2 H1 (.sl (σ j) v lo n) (.sl (d+j) v2 lo n)
 | pt {v2} (j v i off) (B:Blk) (hB:H1[σ j]?=some B) (hl:B.live=true) (hv:B.ver=v) (hv2:v2 < c2):Rn d σ c2 H1 (.pt (σ j) v i off) (.pt (d+j) v2 i off)
 | ag {cs ds} (hl:cs.length=ds.length) (h:∀ (i:Nat) (a b:AV),cs[i]?=some a→ds[i]?=some b→Rn d σ c2 H1 a b):Rn d σ c2 H1 (.ag cs) (.ag ds)
 | tu {cs ds} (hl:cs.length=ds.length) (h:∀ (i:Nat) (a b:AV),cs[i]?=some a→ds[i]?=some b→Rn d σ c2 H1 a b):Rn d σ c2 H1 (.tu cs) (.tu ds)
def RnL (d:Nat) (σ:Nat→Nat) (c2:Nat) (H1:List Blk):List AV→List AV→Prop
 | [],[]=>True
 | a::l,b::m=>Rn d σ c2 H1 a b∧RnL d σ c2 H1 l m
 | _,_=>False
theorem N0 {d:Nat} {σ:Nat→Nat} {c2:Nat} {H1:List Blk}:∀ {l m:List AV},RnL d σ c2 H1 l m→l.length=m.length∧∀ (i:Nat) (a b:AV),l[i]?=some a→m[i]?=some b→Rn d σ c2 H1 a b
 | [],[],_=>⟨rfl,fun i a b h=>by simp at h⟩
 | a::l,b::m,⟨h1,h2⟩=>by
  obtain ⟨e,h⟩:=N0 h2
  refine ⟨by simp [e],fun i x y hx hy=>?_⟩
  cases i with
  | zero=>simp at hx hy; subst hx; subst hy; exact h1
  | succ i=>exact h i x y (by simpa using hx) (by simpa using hy)
 | [],_::_,h=>h.elim
 | _::_,[],h=>h.elim
theorem Ap7 {d:Nat} {σ:Nat→Nat} {c2:Nat} {H1:List Blk} {cs ds:List AV} (h:RnL d σ c2 H1 cs ds):Rn d σ c2 H1 (.ag cs) (.ag ds):=.ag (N0 h).1 (N0 h).2
def RnH (d:Nat) (σ:Nat→Nat) (c c2:Nat) (H1 H2:List Blk):Prop:=
 ∀ j B2,H2[j]?=some B2→B2.live=true→∃ B1,H1[σ j]?=some B1∧B1.live=true∧c≤B2.ver∧B2.ver < c2∧B1.ty=B2.ty∧B1.esz=B2.esz∧B1.els.length=B2.els.length∧
  ∀ (i:Nat) (e f:AV),B1.els[i]?=some e→B2.els[i]?=some f→f≠.jk∧Rn d σ c2 H1 e f
theorem Agt {d:Nat} {σ:Nat→Nat} {c2:Nat} {H1:List Blk} {x y:AV} (h:Rn d σ c2 H1 x y) (hj:y≠.jk):x.cells.length=y.cells.length∧∀ (i:Nat) (a b:AV),x.cells[i]?=some a→y.cells[i]?=some b→Rn d σ c2 H1 a b:=by
 have one:∀ {a b:AV},Rn d σ c2 H1 a b→a.cells=[a]→b.cells=[b]→a.cells.length=b.cells.length∧∀ (i:Nat) (p q:AV),a.cells[i]?=some p→b.cells[i]?=some q→Rn d σ c2 H1 p q:=by
  intro a b h h1 h2
  rw [h1,h2]
  refine ⟨rfl,fun i p q hp hq=>?_⟩
  cases i with
  | zero=>simp at hp hq; subst hp; subst hq; exact h
  | succ i=>simp at hp
 cases h with
 | nr h=>
  refine ⟨rfl,fun i p q hp hq=>?_⟩
  rw [hp] at hq; cases hq
  refine .nr ?_
  cases x with
  | ag cs=>exact Fy (by simpa [AV.noref,AV.cells] using h) _ (lx25 hp)
  | _=>
   cases i with
   | zero=>simp [AV.cells] at hp; subst hp; exact h
   | succ i=>simp [AV.cells] at hp
 | jk=>exact absurd rfl hj
 | sl j v lo n B hB hl hv hv2=>exact one (.sl j v lo n B hB hl hv hv2) rfl rfl
 | pt j v i off B hB hl hv hv2=>exact one (.pt j v i off B hB hl hv hv2) rfl rfl
 | ag hl h=>exact ⟨hl,h⟩
 | tu hl h=>exact one (.tu hl h) rfl rfl
theorem Ap8 {w:World} {X:Nat→Prop} {hc hc2:HC} {d:Nat} {σ:Nat→Nat} {c2:Nat} (hcnt:hc2.cnt=c2) (hloc:∀ j,hc2.loc (d+j)=hc.loc (σ j))
  (hH:∀ j B2,hc2.H[d+j]?=some B2→B2.live=true→∃ B1,hc.H[σ j]?=some B1∧B1.live=true∧B1.ty=B2.ty∧B1.esz=B2.esz∧B1.els.length=B2.els.length)
  {x y:AV} {v:Value} (h:Rn d σ c2 hc.H x y) (hv:VR w X (some hc) x v):VR w X (some hc2) y v:=by
 induction h generalizing v with
 | nr h=>exact Ge _ h hv.close
 | jk a=>exact .jk
 | sl j u lo n B hB hl hu hv2=>
  cases hv with
  | sl h1 h2=>
   refine .sl h1 fun hc1 e=>?_
   cases e
   obtain ⟨g1,g2⟩:=h2 hc rfl
   refine ⟨by rw [hcnt]; exact hv2,fun B2 e1 e2 e3=>?_⟩
   obtain ⟨B1,k1,k2,k3,k4,k5⟩:=hH j B2 e1 e2
   rw [hB] at k1; cases k1
   obtain ⟨q0,q1⟩:=g2 B hB hl hu
   refine ⟨by omega,?_⟩
   rcases q1 with q1 | ⟨b,base,cap,m,n0,n1,n2,n3,n4,n5⟩
   ·exact .inl q1
   ·exact .inr ⟨b,base,cap,m,by rw [hloc]; exact n0,by rw [n1,k4],n2,n3,by rw [←k3]; exact n4,by rw [←k4]; exact n5⟩
 | pt j u i off B hB hl hu hv2=>
  cases hv with
  | pt h1 h2=>
   refine .pt h1 fun hc1 e=>?_
   cases e
   obtain ⟨g1,g2⟩:=h2 hc rfl
   refine ⟨by rw [hcnt]; exact hv2,fun B2 e1 e2 e3=>?_⟩
   obtain ⟨B1,k1,k2,k3,k4,k5⟩:=hH j B2 e1 e2
   rw [hB] at k1; cases k1
   obtain ⟨b,base,q1,q2⟩:=g2 B hB hl hu
   exact ⟨b,base,by rw [hloc]; exact q1,by rw [q2,k4]⟩
 | @ag cs ds hl h ih=>
  cases hv with
  | ag hl' h1 h2=>
   refine .ag (hl.symm.trans hl') (fun i b u hb hu=>?_) h2
   exact Ano
 | @tu cs ds hl h ih=>
  cases hv with
  | tu hl' h1=>
   refine .tu (hl.symm.trans hl') (fun i b u hb hu=>?_)
   exact Ano
theorem S9 {P:Program} {E:Env} (hE:EnvOk P E) (hm:P.follows .mixedOrders=true) {f:FuncId} {fn:Func} {c:Code} {args:List AV} {r2:AV} {H H2:List Blk} {cnt c2:Nat} (σ:Nat→Nat)
  (hf:P.funcs[f]?=some fn) (hb:fn.body=some c) (hn:(fn.name == "runtime.NumGoroutine")=false) (hlex:C7 E.hb E.perm c=true) (ha:norefs args=true)
  (hσ:∀ i j Bi Bj,H2[i]?=some Bi→H2[j]?=some Bj→Bi.live=true→Bj.live=true→σ i=σ j→i=j) (hc2:cnt≤c2)
  (h:Go P E 0 fn.results.toList (fun r' s'=>Rn H.length σ c2 s'.H r' r2∧RnH H.length σ cnt c2 s'.H H2) [.code c] (Af fn args [] 0)):HSpec P f args H cnt r2 (H++H2) c2:=by
 refine ⟨⟨fn,hf,hn,by rw [hb]; rfl⟩,fun w X loc cargs hr hv=>?_⟩
 have hva:VL w X (some ⟨fun _=>none,[],0⟩) args cargs.toList:=GC _ ha ⟨hv.1,fun i a v h1 h2=>(hv.2 i a v h1 h2).close⟩
 have J8:HR w X ⟨fun _=>none,[],0⟩:=⟨fun id B h1 _=>by simp at h1,fun id id' B B' b o o' h1=>by simp at h1,hr.lt⟩
 refine (DJ hE hm hf hb hlex (H:=[]) (cnt:=0) (R:=fun r' s'=>Rn H.length σ c2 s'.H r' r2∧RnH H.length σ cnt c2 s'.H H2) h w X (fun _=>none) cargs J8 hva).mono ?_
 rintro e w' ⟨r',s',X',loc',c',rfl,⟨h0,h1⟩,g1,g2,g3⟩
 have hnew:∀ (id:Nat) (B:Blk) (b o:Nat),s'.H[id]?=some B→B.live=true→loc' id=some (b,o)→¬ b < w.heap.size:=by
  intro id B b o e1 e2 e3 hb0
  exact Adq
 have hkeep:∀ b,b < w.heap.size→w'.heap[b]?=w.heap[b]?:=fun b hb0=>g3.keep b hb0 (by rintro ⟨id,B,o,e1,_⟩; simp at e1)
 obtain ⟨loc2,hloc2⟩:∃ loc2:Nat→Option (Nat × Nat),loc2=fun k=>if k < H.length then loc k else loc' (σ (k - H.length)):=⟨_,rfl⟩
 have l1:∀ k,k < H.length→loc2 k=loc k:=fun k hk=>by rw [hloc2]; simp [hk]
 have l2:∀ k,loc2 (H.length+k)=loc' (σ k):=fun k=>by
  rw [hloc2]; simp only
  rw [if_neg (by omega),IK]
 have hget:∀ (k:Nat) (B:Blk),(H++H2)[k]?=some B→(k < H.length∧H[k]?=some B)∨∃ j,k=H.length+j∧H2[j]?=some B:=by
  intro k B hk
  rw [lx18] at hk
  split at hk
  ·rename_i hl; exact .inl ⟨hl,hk⟩
  ·rename_i hl; exact .inr ⟨k - H.length,by omega,(by have:k - H.length=k - H.length:=rfl; exact hk)⟩
 have hbig:Evo w X ⟨loc,H,cnt⟩ w' X' ⟨loc2,H++H2,c2⟩:=by
  refine ⟨g3.os,g3.tape,g3.output,g3.size,fun b hb0 _=>hkeep b hb0,g3.shape,g3.xs,hc2,?_,?_⟩
  ·intro id B' e1 e2 e3
   simp only at e1 e3 ⊢
   have e1':=hget id B' e1
   clear e1
   rcases e1' with ⟨hl,e1⟩ | ⟨j,rfl,e1⟩
   ·exact ⟨B',e1,e2,rfl,l1 id hl,rfl,rfl,rfl⟩
   ·obtain ⟨B1,k1,k2,k3,k4,_⟩:=h1 j B' e1 e2
    omega
  ·intro id B' b o e1 e2 e3 hb0
   simp only at e1 e3 ⊢
   have e1':=hget id B' e1
   clear e1
   rcases e1' with ⟨hl,e1⟩ | ⟨j,rfl,e1⟩
   ·exact ⟨B',o,e1,e2,by rw [←l1 id hl]; exact e3⟩
   ·obtain ⟨B1,k1,k2,_⟩:=h1 j B' e1 e2
    rw [l2] at e3
    exact absurd hb0 (hnew _ B1 b o k1 k2 e3)
 have hblk:∀ j B2,(H++H2)[H.length+j]?=some B2→B2.live=true→∃ B1,s'.H[σ j]?=some B1∧B1.live=true∧B1.ty=B2.ty∧B1.esz=B2.esz∧B1.els.length=B2.els.length:=by
  intro j B2 e1 e2
  rw [lx62 (by omega),IK] at e1
  obtain ⟨B1,k1,k2,k3,k4,k5,k6,k7,_⟩:=h1 j B2 e1 e2
  exact ⟨B1,k1,k2,k5,k6,k7⟩
 have hvr:∀ {x y:AV} {v:Value},Rn H.length σ c2 s'.H x y→VR w' X' (some (s'.hc loc')) x v→VR w' X' (some ⟨loc2,H++H2,c2⟩) y v:=fun hxy hx=>
  Ap8 (hc:=s'.hc loc') (hc2:=⟨loc2,H++H2,c2⟩) (σ:=σ) rfl l2 hblk hxy hx
 refine ⟨X',loc2,c',rfl,?_,hvr h0 g2,hbig⟩
 refine ⟨?_,?_,g1.lt⟩
 ·intro id B e1 e2
  simp only at e1 ⊢
  have e1':=hget id B e1
  clear e1
  rcases e1' with ⟨hl,e1⟩ | ⟨j,rfl,e1⟩
  ·obtain ⟨q1,q2,q3⟩:=hr.blk id B e1 e2
   simp only at q1 q3
   refine ⟨by omega,q2,?_⟩
   rw [l1 id hl]
   split at q3
   ·exact q3
   ·rename_i b base hlc
    obtain ⟨m1,⟨cs,m2⟩,m3⟩:=q3
    have hb0:=hr.lt b m1
    refine ⟨(g3.xs b hb0).2 m1,⟨cs,by rw [hkeep b hb0]; exact m2⟩,fun i e he=>?_⟩
    obtain ⟨n1,n2⟩:=m3 i e he
    refine ⟨n1,fun jj a ha'=>?_⟩
    obtain ⟨c,p1,p2,p3⟩:=n2 jj a ha'
    refine ⟨c,?_,p2,p3.mono hbig hr⟩
    rw [←p1]
    exact World.cell?_of_block (hkeep _ hb0)
  ·obtain ⟨B1,k1,k2,k3,k4,k5,k6,k7,k8⟩:=h1 j B e1 e2
   obtain ⟨q1,q2,q3⟩:=g1.blk (σ j) B1 k1 k2
   simp only [St.hc] at q1 q3
   refine ⟨k4,by omega,?_⟩
   rw [l2]
   split at q3
   ·rw [q3] at k7
    exact lx60 (by simpa using k7.symm)
   ·rename_i b base hlc
    exact Au5
 ·intro id id' B B' b o o' e1 e2 e3 e4 e5 e6
  simp only at e1 e2 e5 e6
  have e1':=hget id B e1
  clear e1
  rcases e1' with ⟨hl,e1⟩ | ⟨j,rfl,e1⟩
  ·rw [l1 id hl] at e5
   have e2':=hget id' B' e2
   clear e2
   rcases e2' with ⟨hl',e2⟩ | ⟨j',rfl,e2⟩
   ·rw [l1 id' hl'] at e6
    exact hr.inj id id' B B' b o o' e1 e2 e3 e4 e5 e6
   ·rw [l2] at e6
    obtain ⟨B1,k1,k2,_⟩:=h1 j' B' e2 e4
    have:=(hr.blk id B e1 e3).2.2
    simp only [e5] at this
    exact absurd (hr.lt b this.1) (hnew _ B1 b o' k1 k2 e6)
  ·rw [l2] at e5
   obtain ⟨B1,k1,k2,_⟩:=h1 j B e1 e3
   have e2':=hget id' B' e2
   clear e2
   rcases e2' with ⟨hl',e2⟩ | ⟨j',rfl,e2⟩
   ·rw [l1 id' hl'] at e6
    have:=(hr.blk id' B' e2 e4).2.2
    simp only [e6] at this
    exact absurd (hr.lt b this.1) (hnew _ B1 b o k1 k2 e5)
   ·rw [l2] at e6
    obtain ⟨B1',k1',k2',_⟩:=h1 j' B' e2 e4
    have:=g1.inj (σ j) (σ j') B1 B1' b o o' k1 k1' k2 k2' e5 e6
    rw [hσ j j' B B' e1 e2 e3 e4 this]
theorem Ax6 {P:Program} {E:Env} {rs:List ResultVar} {R:AV→St→Prop} {k:List Item} {T T':List AV} {H H2:List Blk} {c c2:Nat} (σ:Nat→Nat) (hT:RnL 0 σ c2 H T T') (hH:RnH 0 σ c c2 H H2)
  (hσ:∀ i j Bi Bj,H2[i]?=some Bi→H2[j]?=some Bj→Bi.live=true→Bj.live=true→σ i=σ j→i=j) (hc:c≤c2) (h:Go P E 0 rs R k ⟨T',H2,c2⟩):Go P E 0 rs R k ⟨T,H,c⟩:=
 .ghost (s':=⟨T',H2,c2⟩) (fun w X loc act hs=>by
  obtain ⟨hr,tm,df⟩:=hs
  simp only [St.hc] at hr tm
  have l2:∀ j,(fun j=>loc (σ j)) (0+j)=loc (σ j):=fun j=>by simp
  have hblk:∀ j B2,H2[0+j]?=some B2→B2.live=true→∃ B1,H[σ j]?=some B1∧B1.live=true∧B1.ty=B2.ty∧B1.esz=B2.esz∧B1.els.length=B2.els.length:=by
   intro j B2 e1 e2
   rw [BO] at e1
   obtain ⟨B1,k1,k2,k3,k4,k5,k6,k7,_⟩:=hH j B2 e1 e2
   exact ⟨B1,k1,k2,k5,k6,k7⟩
  have hvr:∀ {x y:AV} {v:Value},Rn 0 σ c2 H x y→VR w X (some ⟨loc,H,c⟩) x v→VR w X (some ⟨fun j=>loc (σ j),H2,c2⟩) y v:=fun hxy hx=>
   Ap8 (hc:=⟨loc,H,c⟩) (hc2:=⟨fun j=>loc (σ j),H2,c2⟩) (σ:=σ) rfl l2 hblk hxy hx
  obtain ⟨t1,t2⟩:=N0 hT
  refine ⟨X,fun j=>loc (σ j),⟨⟨?_,?_,hr.lt⟩,⟨t1.symm.trans tm.1,fun i b v hb hv=>?_⟩,df⟩,fun w0 X0 BW hn he=>?_⟩
  ·intro j B e1 e2
   simp only [St.hc] at e1 ⊢
   obtain ⟨B1,k1,k2,k3,k4,k5,k6,k7,k8⟩:=hH j B e1 e2
   obtain ⟨q1,q2,q3⟩:=hr.blk (σ j) B1 k1 k2
   simp only at q1 q3
   refine ⟨k4,by omega,?_⟩
   split at q3
   ·rw [q3] at k7
    exact lx60 (by simpa using k7.symm)
   ·rename_i b base hlc
    exact Au5
  ·intro id id' B B' b o o' e1 e2 e3 e4 e5 e6
   simp only [St.hc] at e1 e2 e5 e6
   obtain ⟨B1,k1,k2,_⟩:=hH id B e1 e3
   obtain ⟨B1',k1',k2',_⟩:=hH id' B' e2 e4
   exact hσ id id' B B' e1 e2 e3 e4 (hr.inj (σ id) (σ id') B1 B1' b o o' k1 k1' k2 k2' e5 e6)
  ·have hi:i < T'.length:=(lx22.1 hb).1
   have hx:=lx51 (l:=T) (i:=i) (by omega)
   exact hvr (t2 i _ b hx hb) (tm.2 i _ v hx hv)
  ·have h0:∀ (i:Nat) (B:Blk),BW.H[i]?=some B→False:=fun i B hh=>by
    have:=(lx22.1 hh).1
    omega
   have hcn:BW.cnt≤c:=he.cnt
   refine ⟨he.os,he.tape,he.output,he.size,he.keep,he.shape,he.xs,Og hcn hc,?_,?_⟩
   ·intro id B' e1 e2 e3
    obtain ⟨B1,k1,k2,k3,k4,_⟩:=hH id B' e1 e2
    omega
   ·intro id B' b o e1 e2 e3 hb0
    simp only [St.hc] at e1 e3
    obtain ⟨B1,k1,k2,_⟩:=hH id B' e1 e2
    obtain ⟨B,o',g1,_⟩:=he.fresh (σ id) B1 b o k1 k2 e3 hb0
    exact (h0 _ _ g1).elim) h
theorem Xw {P:Program} {f:FuncId} {args:List AV} {r r':AV} {H':List Blk} {c':Nat} (hn:r.noref=true) (h:HSpec P f args [] 0 r' H' c') (h0:WkV [] (Ap H' r') r) (hfr:r'.freshIn H'=true):IQ P f args r:=by
 refine ⟨h.1,hn,fun w cargs hv=>?_⟩
 refine (h.2 w Qb (fun _=>none) cargs (J8 w) hv).mono ?_
 rintro e w' ⟨X',loc',c,rfl,g1,g2,g3⟩
 have hown:∀ b,Ys ⟨loc',H',c'⟩ b→¬ b < w.heap.size:=by
  rintro b ⟨id,B,o,e1,e2,e3⟩ hb0
  exact Adq
 refine ⟨c,rfl,Mq (hc:=BW) h0 (KH g1 hown _ hfr g2),g3.os,g3.tape,g3.output,g3.size,fun k hk=>g3.keep k hk ?_⟩
 exact TP
def Ax7 (ns:List Int):ByteArray:=ns.foldl (fun r n=>r.push (UInt8.ofNat n.toNat)) ByteArray.empty
def Ax8 (P:Program) (E:Env) (ops:Array Oper) (s:St) (o:Oper) (s':St):Prop:=
 JH P E ops s o=some s'∨∃ src dst x e z ns,o.op=.convert src dst x∧o.guard=none∧P.underlying src=some (.slice e)∧P.underlying e=some (.int .u8)∧P.underlying dst=some .string∧ns≠[]∧
  ev s.T x=.vw z (ns.map fun n=>.sc (.int .u8 n))∧s'=s.put o.dst (.sc (.string (Ax7 ns)))
structure TreeI (P:Program) (E:Env) (ops:Array Oper) (Q:St→Prop) (I:Array Bool→St→Prop):Prop where
 nil:∀ l s,I l s→(∀ k,k < ops.size→l.getD k false=true)→Q s
 step:∀ l s,I l s→l.size=ops.size→Gb ops (fun j=>l.getD j false)→∀ i o,ops[i]?=some o→l.getD i false=false→(∀ e ∈ o.after,Region.binds .any e=true→l.getD e.on false=true)→
  ∃ s',Ax8 P E ops s o s'∧I (l.setIfInBounds i true) s'
section
variable {P:Program} {E:Env} {ops:Array Oper} {Q:St→Prop} {I:Array Bool→St→Prop}
end
end Go.SX
