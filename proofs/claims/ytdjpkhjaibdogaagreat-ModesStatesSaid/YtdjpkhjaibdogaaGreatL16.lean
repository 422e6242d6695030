/-
  Joined texts: SXQ.
  Conditions: none.
-/
import Derived.Test.YtdjpkhjaibdogaaGreatL15
namespace Go.SX
set_option linter.unusedSimpArgs false
set_option linter.unusedVariables false
open Go.RowKit (Below)
theorem weakT_refl:∀ T:List AV,WeakT T T
 | []=>trivial
 | _::T=>⟨.inr rfl,weakT_refl T⟩
theorem weakH_refl:∀ H:List Blk,WeakH H H
 | []=>trivial
 | _::H=>⟨.inr rfl,weakH_refl H⟩
theorem popTmp_sc (H:List Blk) (v:Value):popTmp H (.sc v)=H:=rfl
def dead:Blk:=⟨false,0,0,0,[],false⟩
theorem rval_makeFunc {P:Program} {s:St} (f:FuncId) (caps:Array Operand):rval P s (.makeFunc (.func f) #[] caps)=some (.fn f (caps.toList.map (ev s.T))):=by simp [rval]
def swp (a b i:Nat):Nat:=if i=a then b else if i=b then a else i
theorem swp_swp (a b i:Nat):swp a b (swp a b i)=i:=by
 unfold swp
 by_cases h1:i=a
 ·subst h1; by_cases h2:b=i
  ·simp [h2]
  ·simp [h2]
 ·by_cases h2:i=b
  ·subst h2; simp [h1]
  ·simp [h1,h2]
inductive Ren (a b:Nat):AV→AV→Prop
 | same {v:AV} (h:v.noref=true):Ren a b v v
 | jk {v:AV}:Ren a b v .jk
 | pt (id ver i off:Nat):Ren a b (.pt id ver i off) (.pt (swp a b id) ver i off)
 | sl (id ver lo len:Nat):Ren a b (.sl id ver lo len) (.sl (swp a b id) ver lo len)
 | ag {cs ds:List AV} (hl:cs.length=ds.length) (h:∀ (i:Nat) (c d:AV),cs[i]?=some c→ds[i]?=some d→Ren a b c d):Ren a b (.ag cs) (.ag ds)
def RenL (a b:Nat):List AV→List AV→Prop
 | [],[]=>True
 | x::l,y::m=>Ren a b x y∧RenL a b l m
 | _,_=>False
theorem renL_get {a b:Nat}:∀ {l m:List AV},RenL a b l m→l.length=m.length∧∀ (i:Nat) (c d:AV),l[i]?=some c→m[i]?=some d→Ren a b c d
 | [],[],_=>⟨rfl,fun i c d h=>by simp at h⟩
 | x::l,y::m,h=>by
  obtain ⟨h1,h2⟩:=renL_get h.2
  refine ⟨by simp [h1],fun i c d hc hd=>?_⟩
  cases i with
  | zero=>simp at hc hd; subst hc; subst hd; exact h.1
  | succ i=>simp at hc hd; exact h2 i c d hc hd
 | [],_::_,h=>h.elim
 | _::_,[],h=>h.elim
theorem ren_cells {a b:Nat} {x y:AV} (h:Ren a b x y) (hj:y≠.jk):x.cells.length=y.cells.length∧∀ (i:Nat) (c d:AV),x.cells[i]?=some c→y.cells[i]?=some d→Ren a b c d:=by
 cases h with
 | same h=>
  refine ⟨rfl,fun i c d hc hd=>?_⟩
  rw [hc] at hd; cases hd
  refine .same ?_
  cases x with
  | ag cs=>
   simp only [AV.cells] at hc
   have h':norefs cs=true:=by simpa [AV.noref] using h
   have:∀ {l:List AV},norefs l=true→∀ e ∈ l,e.noref=true:=by
    intro l hl e he
    induction l with
    | nil=>cases he
    | cons z l ih=>
     simp only [norefs,Bool.and_eq_true] at hl
     rcases List.mem_cons.1 he with rfl | he
     ·exact hl.1
     ·exact ih hl.2 he
   exact this h' c (List.mem_of_getElem? hc)
  | _=>
   simp only [AV.cells] at hc
   have:=List.mem_of_getElem? hc
   rw [List.mem_singleton] at this
   subst this; exact h
 | jk=>exact absurd rfl hj
 | pt id ver k off=>
  refine ⟨rfl,fun i c d hc hd=>?_⟩
  cases i with
  | zero=>simp [AV.cells] at hc hd; subst hc; subst hd; exact .pt ..
  | succ i=>simp [AV.cells] at hc
 | sl id ver lo len=>
  refine ⟨rfl,fun i c d hc hd=>?_⟩
  cases i with
  | zero=>simp [AV.cells] at hc hd; subst hc; subst hd; exact .sl ..
  | succ i=>simp [AV.cells] at hc
 | ag hl h=>exact ⟨hl,h⟩
def RenB (a b:Nat) (A A':Blk):Prop:=A.live=true∧A.ver=A'.ver∧A.ty=A'.ty∧A.esz=A'.esz∧RenL a b A.els A'.els∧∀ e ∈ A'.els,e≠.jk
theorem ren_vr {w:World} {X:Nat→Prop} {hc hc':HC} {a b:Nat} (hcnt:hc'.cnt=hc.cnt) (hloc:∀ i,hc'.loc i=hc.loc (swp a b i))
  (hH:∀ (j:Nat) (A':Blk),hc'.H[j]?=some A'→A'.live=true→∃ A,hc.H[swp a b j]?=some A∧RenB a b A A') {x y:AV} {v:Value} (h:Ren a b x y) (hv:VR w X (some hc) x v):VR w X (some hc') y v:=by
 induction h generalizing v with
 | same h=>exact noref_ok _ h hv.close
 | jk=>exact .jk
 | pt id ver i off=>
  cases hv with
  | pt h1 h2=>
   refine .pt h1 fun hc1 e=>?_
   cases e
   obtain ⟨g1,g2⟩:=h2 hc rfl
   refine ⟨by rw [hcnt]; exact g1,fun B' e1 e2 e3=>?_⟩
   obtain ⟨B,k1,k2⟩:=hH _ B' e1 e2
   rw [swp_swp] at k1
   obtain ⟨b',base,q1,q2⟩:=g2 B k1 k2.1 (k2.2.1.trans e3)
   exact ⟨b',base,by rw [hloc,swp_swp]; exact q1,by rw [q2,k2.2.2.2.1]⟩
 | sl id ver lo len=>
  cases hv with
  | sl h1 h2=>
   refine .sl h1 fun hc1 e=>?_
   cases e
   obtain ⟨g1,g2⟩:=h2 hc rfl
   refine ⟨by rw [hcnt]; exact g1,fun B' e1 e2 e3=>?_⟩
   obtain ⟨B,k1,k2⟩:=hH _ B' e1 e2
   rw [swp_swp] at k1
   obtain ⟨q0,q1⟩:=g2 B k1 k2.1 (k2.2.1.trans e3)
   refine ⟨by rw [←(renL_get k2.2.2.2.2.1).1]; exact q0,?_⟩
   rcases q1 with q1 | ⟨b',base,cap,n,p0,p1,p2,p3,p4,p5⟩
   ·exact .inl q1
   ·exact .inr ⟨b',base,cap,n,by rw [hloc,swp_swp]; exact p0,by rw [p1,k2.2.2.2.1],p2,p3,by rw [←k2.2.2.1]; exact p4,by rw [←k2.2.2.2.1]; exact p5⟩
 | ag hl h ih=>
  cases hv with
  | ag hl' h1 h2=>
   refine .ag (hl.symm.trans hl') (fun i d u hd hu=>?_) h2
   have hi:i < _:=(List.getElem?_eq_some_iff.1 hd).1
   have hci:=List.getElem?_eq_getElem (hl ▸ hi)
   exact ih i _ d hci hd (h1 i _ u hci hu)
theorem ren_sr {w:World} {X:Nat→Prop} {loc:Nat→Option (Nat × Nat)} {act:Act} {T T':List AV} {H H':List Blk} {c n0 a b:Nat} (hs:SR w X loc ⟨T,H,c⟩ act) (ha:n0≤a) (hb:n0≤b)
  (hT:RenL a b T T') (hH:∀ (j:Nat) (A':Blk),H'[j]?=some A'→A'.live=true→∃ A,H[swp a b j]?=some A∧RenB a b A A'):
  ∃ X' loc',SR w X' loc' ⟨T',H',c⟩ act∧∀ w0 X0 hc0,hc0.H.length=n0→Evo w0 X0 hc0 w X ((⟨T,H,c⟩:St).hc loc)→Evo w0 X0 hc0 w X' ((⟨T',H',c⟩:St).hc loc'):=by
 obtain ⟨h1,h2,h3⟩:=hs
 have hvr:∀ {x y:AV} {v:Value},Ren a b x y→VR w X (some ⟨loc,H,c⟩) x v→VR w X (some ⟨fun i=>loc (swp a b i),H',c⟩) y v:=
  fun h hv=>ren_vr (hc:=⟨loc,H,c⟩) (hc':=⟨fun i=>loc (swp a b i),H',c⟩) rfl (fun _=>rfl) hH h hv
 have hlow:∀ j,swp a b j < n0→swp a b j=j:=by
  intro j hj
  unfold swp at hj ⊢
  by_cases e1:j=a
  ·rw [if_pos e1] at hj; omega
  ·rw [if_neg e1] at hj ⊢
   by_cases e2:j=b
   ·rw [if_pos e2] at hj; omega
   ·rw [if_neg e2]
 refine ⟨X,fun i=>loc (swp a b i),⟨⟨?_,?_,h1.lt⟩,?_,h3⟩,?_⟩
 ·intro j B' e1 e2
  obtain ⟨B,k1,k2,k3,k4,k5,k6,k7⟩:=hH j B' e1 e2
  obtain ⟨g1,g2,g3⟩:=h1.blk _ B k1 k2
  have hlen:=(renL_get k6).1
  refine ⟨by rw [←k3]; exact g1,by rw [←hlen]; exact g2,?_⟩
  show match loc (swp a b j) with
   | none=>B'.els=[]
   | some (b',base)=>X b'∧(∃ cs,w.heap[b']?=some (.cells cs B'.ty (0,0)))∧ElsOk w X ⟨fun i=>loc (swp a b i),H',c⟩ b' base B'
  have g3':match loc (swp a b j) with
   | none=>B.els=[]
   | some (b',base)=>X b'∧(∃ cs,w.heap[b']?=some (.cells cs B.ty (0,0)))∧ElsOk w X ⟨loc,H,c⟩ b' base B:=g3
  cases hl:loc (swp a b j) with
  | none=>
   rw [hl] at g3'
   simp only at g3' ⊢
   rw [g3'] at hlen
   exact List.length_eq_zero_iff.1 hlen.symm
  | some p=>
   obtain ⟨b',base⟩:=p
   rw [hl] at g3'
   simp only at g3' ⊢
   obtain ⟨q1,⟨cs,q2⟩,q3⟩:=g3'
   refine ⟨q1,⟨cs,by rw [←k4]; exact q2⟩,fun i e he=>?_⟩
   have hi:i < B'.els.length:=(List.getElem?_eq_some_iff.1 he).1
   have he0:B.els[i]?=some (B.els[i]'(by omega)):=List.getElem?_eq_getElem (by omega)
   obtain ⟨r1,r2⟩:=q3 i _ he0
   have hre:=(renL_get k6).2 i _ e he0 he
   obtain ⟨s1,s2⟩:=ren_cells hre (k7 e (List.mem_of_getElem? he))
   refine ⟨by rw [←s1,←k5]; exact r1,fun m d hd=>?_⟩
   have hm:m < e.cells.length:=(List.getElem?_eq_some_iff.1 hd).1
   have hc0:=List.getElem?_eq_getElem (l:=(B.els[i]'(by omega)).cells) (i:=m) (by omega)
   obtain ⟨u,t1,t2,t3⟩:=r2 m _ hc0
   exact ⟨u,by rw [←k5]; exact t1,t2,hvr (s2 m _ d hc0 hd) t3⟩
 ·intro j j' B1 B2 b' o o' e1 e2 e3 e4 e5 e6
  obtain ⟨A1,k1,k2⟩:=hH j B1 e1 e3
  obtain ⟨A2,l1,l2⟩:=hH j' B2 e2 e4
  have:=h1.inj _ _ A1 A2 b' o o' k1 l1 k2.1 l2.1 e5 e6
  rw [←swp_swp a b j,this,swp_swp]
 ·obtain ⟨e1,e2⟩:=renL_get hT
  refine ⟨e1.symm.trans h2.1,fun i y v hy hv=>?_⟩
  have hi:i < T'.length:=(List.getElem?_eq_some_iff.1 hy).1
  have hx:T[i]?=some (T[i]'(by omega)):=List.getElem?_eq_getElem (by omega)
  exact hvr (e2 i _ y hx hy) (h2.2 i _ v hx hv)
 ·intro w0 X0 hc0 hn he
  refine ⟨he.os,he.tape,he.output,he.size,he.keep,he.shape,he.xs,he.cnt,?_,?_⟩
  ·intro j B' e1 e2 e3
   obtain ⟨B,k1,k2,k3,k4,k5,k6,k7⟩:=hH j B' e1 e2
   obtain ⟨B0,g1,g2,g3,g4,g5,g6,g7⟩:=he.old (swp a b j) B k1 k2 (by rw [k3]; exact e3)
   have hlt:swp a b j < n0:=by rw [←hn]; exact (List.getElem?_eq_some_iff.1 g1).1
   have hj:=hlow j hlt
   rw [hj] at g1
   have g4':loc (swp a b j)=hc0.loc (swp a b j):=g4
   refine ⟨B0,g1,g2,g3.trans k3,?_,g5.trans k5,g6.trans k4,g7.trans (renL_get k6).1⟩
   show loc (swp a b j)=hc0.loc j
   rw [g4',hj]
  ·intro j B' b' o e1 e2 e3 e4
   obtain ⟨B,k1,k2,_⟩:=hH j B' e1 e2
   obtain ⟨B0,o',g1,g2,g3⟩:=he.fresh (swp a b j) B b' o k1 k2 e3 e4
   have hlt:swp a b j < n0:=by rw [←hn]; exact (List.getElem?_eq_some_iff.1 g1).1
   have hj:=hlow j hlt
   rw [hj] at g1 g3
   exact ⟨B0,o',g1,g2,g3⟩
section
variable {P:Program} {E:Env} {n0:Nat} {rs:List ResultVar} {R:AV→St→Prop}
theorem go_swap {k:List Item} {T T':List AV} {H H':List Blk} {c:Nat} (a b:Nat) (ha:n0≤a) (hb:n0≤b) (hT:RenL a b T T')
  (hH:∀ (j:Nat) (A':Blk),H'[j]?=some A'→A'.live=true→∃ A,H[swp a b j]?=some A∧RenB a b A A') (h:Go P E n0 rs R k ⟨T',H',c⟩):Go P E n0 rs R k ⟨T,H,c⟩:=
 .ghost (s':=⟨T',H',c⟩) (fun w X loc act hs=>ren_sr hs ha hb hT hH) h
end
section
variable {P:Program} {E:Env} {n0:Nat} {rs:List ResultVar} {R:AV→St→Prop}
end
inductive WkV (H:List Blk):AV→AV→Prop
 | refl (v:AV):WkV H v v
 | jk (v:AV):WkV H v .jk
 | vw (z:Bool) (es:List AV):WkV H (.vw z es) (.vw false es)
 | sl0 (id ver lo:Nat) (h:(liveB H id ver).isSome=true):WkV H (.sl id ver lo 0) (.vw false [])
 | ag {cs ds:List AV} (hl:cs.length=ds.length) (h:∀ (i:Nat) (c d:AV),cs[i]?=some c→ds[i]?=some d→WkV H c d):WkV H (.ag cs) (.ag ds)
 | tu {cs ds:List AV} (hl:cs.length=ds.length) (h:∀ (i:Nat) (c d:AV),cs[i]?=some c→ds[i]?=some d→WkV H c d):WkV H (.tu cs) (.tu ds)
def WkL (H:List Blk):List AV→List AV→Prop
 | [],[]=>True
 | a::l,b::m=>WkV H a b∧WkL H l m
 | _,_=>False
theorem wkL_get {H:List Blk}:∀ {l m:List AV},WkL H l m→l.length=m.length∧∀ (i:Nat) (c d:AV),l[i]?=some c→m[i]?=some d→WkV H c d
 | [],[],_=>⟨rfl,fun i c d h=>by simp at h⟩
 | x::l,y::m,h=>by
  obtain ⟨h1,h2⟩:=wkL_get h.2
  refine ⟨by simp [h1],fun i c d hc hd=>?_⟩
  cases i with
  | zero=>simp at hc hd; subst hc; subst hd; exact h.1
  | succ i=>simp at hc hd; exact h2 i c d hc hd
 | [],_::_,h=>h.elim
 | _::_,[],h=>h.elim
theorem wkL_of {H:List Blk}:∀ {l m:List AV},l.length=m.length→(∀ (i:Nat) (c d:AV),l[i]?=some c→m[i]?=some d→WkV H c d)→WkL H l m
 | [],[],_,_=>trivial
 | x::l,y::m,hl,h=>⟨h 0 x y rfl rfl,wkL_of (by simpa using hl) fun i c d hc hd=>h (i+1) c d (by simpa using hc) (by simpa using hd)⟩
 | [],_::_,h,_=>by simp at h
 | _::_,[],h,_=>by simp at h
theorem wkL_refl (H:List Blk):∀ l:List AV,WkL H l l
 | []=>trivial
 | x::l=>⟨.refl x,wkL_refl H l⟩
theorem wkV_self (H:List Blk) (a:AV):WkV H a a=True:=eq_true (.refl a)
theorem wkV_jk (H:List Blk) (a:AV):WkV H a .jk=True:=eq_true (.jk a)
theorem wkV_vw (H:List Blk) (z:Bool) (es:List AV):WkV H (.vw z es) (.vw false es)=True:=eq_true (.vw z es)
theorem wkV_tu (H:List Blk) (cs ds:List AV):WkV H (.tu cs) (.tu ds)=WkL H cs ds:=propext ⟨fun h=>by
 cases h with
 | refl=>exact wkL_refl H _
 | tu hl h=>exact wkL_of hl h,fun h=>.tu (wkL_get h).1 (wkL_get h).2⟩
theorem wkL_nil (H:List Blk):WkL H [] []=True:=rfl
theorem wkL_cons (H:List Blk) (a b:AV) (l m:List AV):WkL H (a::l) (b::m)=(WkV H a b∧WkL H l m):=rfl
theorem wkV_ok {w:World} {X:Nat→Prop} {hc:HC} {a b:AV} (h:WkV hc.H a b):∀ {v:Value},VR w X (some hc) a v→VR w X (some hc) b v:=by
 induction h with
 | refl=>exact fun hv=>hv
 | jk=>exact fun _=>.jk
 | vw z es=>
  intro v hv
  cases hv with
  | vw0 hz hm=>exact .vw0 (fun h=>by cases h) hm
  | vw1 f hne hX hb hcap hz hmax hsz hc' hv'=>exact .vw1 f hne hX hb hcap (fun h=>by cases h) hmax hsz hc' hv'
 | sl0 id ver lo h=>
  intro v hv
  cases hv with
  | sl g1 g2=>
   obtain ⟨k1,k2⟩:=g2 _ rfl
   obtain ⟨B,hB⟩:=Option.isSome_iff_exists.1 h
   obtain ⟨e1,e2,e3⟩:=liveB_some hB
   rcases (k2 B e1 e2 e3).2 with ⟨_,a,rfl⟩ | ⟨b',base,cap,n,_,rfl,_,hm,_⟩
   ·exact .vw0 (fun h=>by cases h) (Nat.zero_le _)
   ·exact .vw0 (fun h=>by cases h) hm
 | ag hl h ih=>
  intro v hv
  cases hv with
  | ag g1 g2 g3=>
   refine .ag (hl.symm.trans g1) (fun i d u hd hu=>?_) g3
   have hi:=(List.getElem?_eq_some_iff.1 hd).1
   have hci:=List.getElem?_eq_getElem (hl ▸ hi)
   exact ih i _ d hci hd (g2 i _ u hci hu)
 | tu hl h ih=>
  intro v hv
  cases hv with
  | tu g1 g2=>
   refine .tu (hl.symm.trans g1) (fun i d u hd hu=>?_)
   have hi:=(List.getElem?_eq_some_iff.1 hd).1
   have hci:=List.getElem?_eq_getElem (hl ▸ hi)
   exact ih i _ d hci hd (g2 i _ u hci hu)
theorem wk_cells {H:List Blk} {e e':AV} (h:WkV H e e') (hj:e'≠.jk):e.cells.length=e'.cells.length∧∀ (j:Nat) (a a':AV),e.cells[j]?=some a→e'.cells[j]?=some a'→WkV H a a':=by
 have one:∀ {x y:AV},WkV H x y→x.cells=[x]→y.cells=[y]→x.cells.length=y.cells.length∧∀ (j:Nat) (a a':AV),x.cells[j]?=some a→y.cells[j]?=some a'→WkV H a a':=by
  intro x y hw hx hy
  rw [hx,hy]
  refine ⟨rfl,fun j a a' h1 h2=>?_⟩
  cases j with
  | zero=>simp at h1 h2; subst h1; subst h2; exact hw
  | succ j=>simp at h1
 cases h with
 | refl=>exact ⟨rfl,fun j a a' h1 h2=>by rw [h1] at h2; cases h2; exact .refl _⟩
 | jk=>exact absurd rfl hj
 | vw z es=>exact one (.vw z es) rfl rfl
 | sl0 id ver lo h=>exact one (.sl0 id ver lo h) rfl rfl
 | ag hl h=>exact ⟨hl,h⟩
 | tu hl h=>exact one (.tu hl h) rfl rfl
def noJk:List AV→Bool
 | []=>true
 | .jk::_=>false
 | _::l=>noJk l
theorem noJk_mem:∀ {l:List AV},noJk l=true→∀ e ∈ l,e≠.jk
 | [],_,e,he=>by cases he
 | a::l,h,e,he=>by
  rcases List.mem_cons.1 he with rfl | he
  ·rintro rfl; simp [noJk] at h
  ·refine noJk_mem (l:=l) ?_ e he
   cases a <;> simp_all [noJk]
def WkB (H:List Blk) (a b:Blk):Prop:=a.live=true∧a.ver=b.ver∧a.ty=b.ty∧a.esz=b.esz∧WkL H a.els b.els∧noJk b.els=true
def WkH (H0:List Blk):List Blk→List Blk→Prop
 | _,[]=>True
 | [],b::H'=>b.live=false∧WkH H0 [] H'
 | a::H,b::H'=>(b.live=false∨a=b∨WkB H0 a b)∧WkH H0 H H'
theorem wkH_nil (H0 H:List Blk):WkH H0 H []=True:=by cases H <;> rfl
theorem wkH_cons (H0:List Blk) (a b:Blk) (H H':List Blk):WkH H0 (a::H) (b::H')=((b.live=false∨a=b∨WkB H0 a b)∧WkH H0 H H'):=rfl
theorem wkH_self (H0:List Blk):∀ H:List Blk,WkH H0 H H
 | []=>trivial
 | _::H=>⟨.inr (.inl rfl),wkH_self H0 H⟩
theorem wkH_selfT (H0 H:List Blk):WkH H0 H H=True:=eq_true (wkH_self H0 H)
theorem wkH_app (H0 D:List Blk):∀ H:List Blk,WkH H0 (H++D) H
 | []=>by cases D <;> trivial
 | _::H=>⟨.inr (.inl rfl),wkH_app H0 D H⟩
theorem wkB_mk (H:List Blk) (l l':Bool) (v v' t t' e e':Nat) (es es':List AV) (p p':Bool):WkB H ⟨l,v,t,e,es,p⟩ ⟨l',v',t',e',es',p'⟩=(l=true∧v=v'∧t=t'∧e=e'∧WkL H es es'∧noJk es'=true):=rfl
theorem noJk_nil:noJk []=true:=rfl
theorem noJk_ag (cs l:List AV):noJk (.ag cs::l)=noJk l:=rfl
theorem noJk_sc (v:Value) (l:List AV):noJk (.sc v::l)=noJk l:=rfl
theorem wkH_spec {H0:List Blk}:∀ {H H':List Blk},WkH H0 H H'→∀ (i:Nat) (b:Blk),H'[i]?=some b→b.live=true→∃ a,H[i]?=some a∧(a=b∨WkB H0 a b)
 | _,[],_,i,b,h,_=>by simp at h
 | [],b::H',h,i,c,hc,hl=>by
  cases i with
  | zero=>simp at hc; subst hc; rw [h.1] at hl; cases hl
  | succ i=>
   simp at hc
   obtain ⟨a,h1,_⟩:=wkH_spec h.2 i c hc hl
   simp at h1
 | a::H,b::H',h,i,c,hc,hl=>by
  cases i with
  | zero=>
   simp at hc; subst hc
   rcases h.1 with h1 | h1
   ·rw [h1] at hl; cases hl
   ·exact ⟨a,rfl,h1⟩
  | succ i=>
   simp at hc
   obtain ⟨a',h1,h2⟩:=wkH_spec h.2 i c hc hl
   exact ⟨a',by simpa using h1,h2⟩
theorem wkH_ok {w:World} {X:Nat→Prop} {hc:HC} (hr:HR w X hc) {H':List Blk} {cnt':Nat} (h:WkH hc.H hc.H H') (hcnt:hc.cnt≤cnt'):
  HR w X ⟨hc.loc,H',cnt'⟩∧Evo w X hc w X ⟨hc.loc,H',cnt'⟩:=by
 have key:∀ (i:Nat) (b:Blk),H'[i]?=some b→b.live=true→∃ a,hc.H[i]?=some a∧a.live=true∧a.ver=b.ver∧a.ty=b.ty∧a.esz=b.esz∧a.els.length=b.els.length∧
   ∀ (j:Nat) (e e':AV),a.els[j]?=some e→b.els[j]?=some e'→e.cells.length=e'.cells.length∧∀ (m:Nat) (x x':AV),e.cells[m]?=some x→e'.cells[m]?=some x'→WkV hc.H x x':=by
  intro i b hb hl
  obtain ⟨a,h1,h2⟩:=wkH_spec h i b hb hl
  rcases h2 with rfl | ⟨g1,g2,g3,g4,g5,g6⟩
  ·exact ⟨a,h1,hl,rfl,rfl,rfl,rfl,fun j e e' he he'=>by
    rw [he] at he'; cases he'
    exact ⟨rfl,fun m x x' h3 h4=>by rw [h3] at h4; cases h4; exact .refl _⟩⟩
  ·obtain ⟨k1,k2⟩:=wkL_get g5
   exact ⟨a,h1,g1,g2,g3,g4,k1,fun j e e' he he'=>wk_cells (k2 j e e' he he') (noJk_mem g6 e' (List.mem_of_getElem? he'))⟩
 have ev:Evo w X hc w X ⟨hc.loc,H',cnt'⟩:=by
  refine ⟨rfl,rfl,rfl,Nat.le_refl _,fun _ _ _=>rfl,fun _ _ h=>h,fun _ _=>Iff.rfl,hcnt,?_,?_⟩
  ·intro k B e1 e2 e3
   obtain ⟨a,k1,k2,k3,k4,k5,k6,_⟩:=key k B e1 e2
   exact ⟨a,k1,k2,k3,rfl,k5,k4,k6⟩
  ·intro k B b o e1 e2 e3 e4
   obtain ⟨a,k1,k2,_⟩:=key k B e1 e2
   exact ⟨a,o,k1,k2,e3⟩
 refine ⟨⟨?_,?_,hr.lt⟩,ev⟩
 ·intro k B e1 e2
  obtain ⟨a,k1,k2,k3,k4,k5,k6,k7⟩:=key k B e1 e2
  obtain ⟨q1,q2,q3⟩:=hr.blk k a k1 k2
  have q1':a.ver < hc.cnt:=q1
  refine ⟨by rw [←k3]; exact Nat.lt_of_lt_of_le q1' hcnt,by rw [←k6]; exact q2,?_⟩
  show match hc.loc k with
   | none=>B.els=[]
   | some (b,base)=>X b∧(∃ cs,w.heap[b]?=some (.cells cs B.ty (0,0)))∧ElsOk w X ⟨hc.loc,H',cnt'⟩ b base B
  cases hl:hc.loc k with
  | none=>
   rw [hl] at q3
   simp only at q3 ⊢
   rw [q3] at k6
   exact List.length_eq_zero_iff.1 k6.symm
  | some p=>
   obtain ⟨b,base⟩:=p
   rw [hl] at q3
   simp only at q3 ⊢
   obtain ⟨p1,⟨cs,p2⟩,p3⟩:=q3
   refine ⟨p1,⟨cs,by rw [←k4]; exact p2⟩,fun i e he=>?_⟩
   have hi:i < B.els.length:=(List.getElem?_eq_some_iff.1 he).1
   have he0:a.els[i]?=some (a.els[i]'(by omega)):=List.getElem?_eq_getElem (by omega)
   obtain ⟨r1,r2⟩:=p3 i _ he0
   obtain ⟨s1,s2⟩:=k7 i _ e he0 he
   refine ⟨by rw [←s1,←k5]; exact r1,fun m d hd=>?_⟩
   have hm:m < e.cells.length:=(List.getElem?_eq_some_iff.1 hd).1
   have hc0:=List.getElem?_eq_getElem (l:=(a.els[i]'(by omega)).cells) (i:=m) (by omega)
   obtain ⟨u,t1,t2,t3⟩:=r2 m _ hc0
   exact ⟨u,by rw [←k5]; exact t1,t2,(wkV_ok (s2 m _ d hc0 hd) t3).mono ev hr⟩
 ·intro k k' B1 B2 b o o' e1 e2 e3 e4 e5 e6
  obtain ⟨a1,k1,k2,_⟩:=key k B1 e1 e3
  obtain ⟨a2,l1,l2,_⟩:=key k' B2 e2 e4
  exact hr.inj k k' a1 a2 b o o' k1 l1 k2 l2 e5 e6
section
variable {P:Program} {E:Env} {n0:Nat} {rs:List ResultVar} {R:AV→St→Prop}
end
noncomputable def mkH {α:Type} (q:α→Prop) (enc:α→List AV × List Blk × Nat) (out:α→AV × List Blk × Nat) (args:List AV) (H:List Blk) (cnt:Nat):Option (AV × List Blk × Nat):=
 open Classical in if h:∃ x,q x∧enc x=(args,H,cnt) then some (out (Classical.choose h)) else none
theorem mkH_eq {α:Type} {q:α→Prop} {enc:α→List AV × List Blk × Nat} {out:α→AV × List Blk × Nat} (x:α) (hq:q x) (hi:∀ y,q y→enc y=enc x→out y=out x):mkH q enc out (enc x).1 (enc x).2.1 (enc x).2.2=some (out x):=by
 unfold mkH
 have h:∃ y,q y∧enc y=((enc x).1,(enc x).2.1,(enc x).2.2):=⟨x,hq,rfl⟩
 rw [dif_pos h,hi _ (Classical.choose_spec h).1 (Classical.choose_spec h).2]
def HOk (P:Program) (g:Nat) (F:List AV→List Blk→Nat→Option (AV × List Blk × Nat)):Prop:=∀ args H cnt r H' cnt',F args H cnt=some (r,H',cnt')→HSpec P g args H cnt r H' cnt'
theorem hok_mk {P:Program} {g:Nat} {α:Type} {q:α→Prop} {enc:α→List AV × List Blk × Nat} {out:α→AV × List Blk × Nat}
  (h:∀ x,q x→HSpec P g (enc x).1 (enc x).2.1 (enc x).2.2 (out x).1 (out x).2.1 (out x).2.2):HOk P g (mkH q enc out):=by
 intro args H cnt r H' cnt' hr
 unfold mkH at hr
 split at hr
 ·rename_i hx
  injection hr with hr
  have h1:=(Classical.choose_spec hx).1
  have h2:=(Classical.choose_spec hx).2
  have h3:=h _ h1
  rw [h2,hr] at h3
  exact h3
 ·cases hr
inductive HOks (P:Program):List (Nat × (List AV→List Blk→Nat→Option (AV × List Blk × Nat)))→Prop
 | nil:HOks P []
 | cons {g F r} (h:HOk P g F) (t:HOks P r):HOks P ((g,F)::r)
def hin:List (Nat × (List AV→List Blk→Nat→Option (AV × List Blk × Nat)))→Nat→Bool
 | [],_=>false
 | (g,_)::r,f=>if f=g then true else hin r f
def hl:List (Nat × (List AV→List Blk→Nat→Option (AV × List Blk × Nat)))→Nat→List AV→List Blk→Nat→Option (AV × List Blk × Nat)
 | [],_,_,_,_=>none
 | (g,F)::r,f,a,H,c=>if f=g then F a H c else hl r f a H c
def gEnv (l lv lf:List (Nat × (List AV→Option AV))) (lh:List (Nat × (List AV→List Blk→Nat→Option (AV × List Blk × Nat)))) (lit:Bool) (pm:Nat→Option (List Nat)):Env:=
 ⟨pin l,pl l,fun g args H cnt=>if hin lh g=true then hl lh g args H cnt else if pin lf g=true then hcF H cnt (pl lf g (borrows H args)) else hcV H cnt (norefs args) (pl lv g args),lit,pm,hin lh⟩
section
variable (l lv lf:List (Nat × (List AV→Option AV))) (lh:List (Nat × (List AV→List Blk→Nat→Option (AV × List Blk × Nat)))) (lit:Bool) (pm:Nat→Option (List Nat))
theorem lit_gEnv:(gEnv l lv lf lh lit pm).lit=lit:=rfl
theorem perm_gEnv (i:Nat):(gEnv l lv lf lh lit pm).perm i=pm i:=rfl
theorem hb_gEnv (g:Nat):(gEnv l lv lf lh lit pm).hb g=(hin lh g && !pin l g):=rfl
theorem isP_gEnv (f:Nat):(gEnv l lv lf lh lit pm).isP f=pin l f:=rfl
theorem pcall_gEnv (f:Nat) (a:List AV):(gEnv l lv lf lh lit pm).pcall f a=pl l f a:=rfl
theorem hcall_gEnv (f:Nat) (a:List AV) (H:List Blk) (cnt:Nat):(gEnv l lv lf lh lit pm).hcall f a H cnt=if hin lh f=true then hl lh f a H cnt else if pin lf f=true then hcF H cnt (pl lf f (borrows H a)) else hcV H cnt (norefs a) (pl lv f a):=rfl
end
theorem gEnv_ok {P:Program} {l lv lf:List (Nat × (List AV→Option AV))} {lh:List (Nat × (List AV→List Blk→Nat→Option (AV × List Blk × Nat)))} {lit:Bool} {pm:Nat→Option (List Nat)}
  (h:POks P l) (hv:VOks P lv) (hf:FOks P lf) (hh:HOks P lh):EnvOk P (gEnv l lv lf lh lit pm) where
 p:=(pEnv_ok h).p
 h f args H cnt r H' cnt' he:=by
  simp only [gEnv] at he
  split at he
  ·induction hh with
   | nil=>simp [hl] at he
   | @cons g F r' h t ih=>
    simp only [hl] at he
    split at he
    ·rename_i hh; subst hh; exact h _ _ _ _ _ _ he
    ·rename_i h1 h2
     refine ih ?_ he
     simp only [hin] at h1
     rw [if_neg h2] at h1
     exact h1
  ·split at he
   ·exact (fEnv_ok h hf).h f args H cnt r H' cnt' he
   ·exact (vEnv_ok h hv).h f args H cnt r H' cnt' he
theorem hspecW_of_go {P:Program} {E:Env} (hE:EnvOk P E) (hm:P.follows .mixedOrders=true) {f:FuncId} {fn:Func} {c:Code} {args:List AV} {H H':List Blk} {cnt cnt':Nat} {r:AV}
  (hf:P.funcs[f]?=some fn) (hb:fn.body=some c) (hn:(fn.name == "runtime.NumGoroutine")=false) (hlex:lexAll E.hb E.perm c=true)
  (h:Go P E H.length fn.results.toList (fun r' s'=>WkV s'.H r' r∧WkH s'.H s'.H H'∧s'.cnt≤cnt') [.code c] (initSt fn args H cnt)):HSpec P f args H cnt r H' cnt':=by
 refine ⟨⟨fn,hf,hn,by rw [hb]; rfl⟩,fun w X loc cargs hr hv=>?_⟩
 refine (calls_of_go hE hm hf hb hlex h w X loc cargs hr hv).mono ?_
 rintro e w' ⟨r',s',X',loc',c',rfl,⟨h0,h1,h2⟩,g1,g2,g3⟩
 obtain ⟨q1,q2⟩:=wkH_ok (hc:=s'.hc loc') (H':=H') (cnt':=cnt') g1 h1 h2
 exact ⟨X',loc',c',rfl,q1,(wkV_ok (hc:=s'.hc loc') h0 g2).mono q2 g1,g3.trans q2⟩
theorem vspecW_of_go {P:Program} {E:Env} (hE:EnvOk P E) (hm:P.follows .mixedOrders=true) {f:FuncId} {fn:Func} {c:Code} {args:List AV} {r:AV}
  (hf:P.funcs[f]?=some fn) (hb:fn.body=some c) (hn:(fn.name == "runtime.NumGoroutine")=false) (hlex:lexAll E.hb E.perm c=true) (hr:r.noref=true)
  (h:Go P E 0 fn.results.toList (fun r' s'=>WkV [] (borrow s'.H r') r) [.code c] (initSt fn args [] 0)):VSpec P f args r:=by
 refine ⟨⟨fn,hf,hn,by rw [hb]; rfl⟩,hr,fun w X0 cargs hx hv=>?_⟩
 have hr0:HR w X0 ⟨fun _=>none,[],0⟩:=⟨fun id B h1 _=>by simp at h1,fun id id' B B' b o o' h1=>by simp at h1,hx⟩
 refine (calls_of_go hE hm hf hb hlex (H:=[]) (cnt:=0) (R:=fun r' s'=>WkV [] (borrow s'.H r') r) h w X0 (fun _=>none) cargs hr0 hv).mono ?_
 rintro e w' ⟨r',s',X',loc',c',rfl,h0,g1,g2,g3⟩
 have hown:∀ b,Own (s'.hc loc') b→¬ X0 b:=by
  rintro b ⟨id,B,o,e1,e2,e3⟩ hb0
  obtain ⟨B1,o1,k1,_⟩:=g3.fresh id B b o e1 e2 e3 (hx b hb0)
  simp at k1
 refine ⟨c',rfl,wkV_ok (hc:=hc0) h0 (borrowX_ok g1 (fun b hb0=>(g3.xs b (hx b hb0)).2 hb0) hown _ g2),g3.os,g3.tape,g3.output,g3.size,fun k hk=>g3.keep k hk ?_⟩
 rintro ⟨id,B,o,h1,_⟩
 simp at h1
theorem fspecW_of_go {P:Program} {E:Env} (hE:EnvOk P E) (hm:P.follows .mixedOrders=true) {f:FuncId} {fn:Func} {c:Code} {args:List AV} {r:AV}
  (hf:P.funcs[f]?=some fn) (hb:fn.body=some c) (hn:(fn.name == "runtime.NumGoroutine")=false) (hlex:lexAll E.hb E.perm c=true) (hr:r.noref=true)
  (h:Go P E 0 fn.results.toList (fun r' s'=>WkV [] (borrow s'.H r') r∧r'.freshIn s'.H=true) [.code c] (initSt fn args [] 0)):FSpec P f args r:=by
 refine ⟨⟨fn,hf,hn,by rw [hb]; rfl⟩,hr,fun w cargs hv=>?_⟩
 refine (calls_of_go hE hm hf hb hlex (H:=[]) (cnt:=0) (R:=fun r' s'=>WkV [] (borrow s'.H r') r∧r'.freshIn s'.H=true) h w noX (fun _=>none) cargs (hr0 w) hv).mono ?_
 rintro e w' ⟨r',s',X',loc',c',rfl,⟨h0,hfr⟩,g1,g2,g3⟩
 have hown:∀ b,Own (s'.hc loc') b→¬ b < w.heap.size:=by
  rintro b ⟨id,B,o,e1,e2,e3⟩ hb0
  obtain ⟨B1,o1,k1,_⟩:=g3.fresh id B b o e1 e2 e3 hb0
  simp at k1
 refine ⟨c',rfl,wkV_ok (hc:=hc0) h0 (borrowF_ok g1 hown _ hfr g2),g3.os,g3.tape,g3.output,g3.size,fun k hk=>g3.keep k hk ?_⟩
 rintro ⟨id,B,o,h1,_⟩
 simp at h1
end Go.SX
