/-
  Lemmas towards ModesPriority (joined texts: SXL, SXR).
  Conditions: none.
-/
import Derived.Test.YtdjpkhjaibdogaaGreatL01
import Derived.Test.YtdjpkhjaibdogaaGreatL07
set_option linter.unusedSimpArgs false
set_option linter.unusedVariables false
set_option maxRecDepth 100000
namespace Go.SX
open Go.RowKit (Below)
theorem Fi:∀ {l:List AV},norefs l=true→∀ a ∈ l,a.noref=true
 | [],_,a,h=>by cases h
 | x::r,hn,a,h=>by
  simp only [norefs,AH] at hn
  rcases lx59.1 h with rfl | h
  ·exact hn.1
  ·exact Fi hn.2 a h
theorem NI:∀ {l:List AV},(∀ a ∈ l,a.noref=true)→norefs l=true
 | [],_=>by simp [norefs]
 | x::r,h=>by
  simp only [norefs,AH]
  exact ⟨h x lx47,NI fun a ha=>h a (lx48 _ ha)⟩
theorem OA {e:AV} (h:e.noref=true):∀ a ∈ e.cells,a.noref=true:=by
 cases e with
 | ag cs=>simp only [AV.noref] at h; exact Fi h
 | _=>intro a ha; simp only [AV.cells,lx70] at ha; subst ha; exact h
theorem Mc (v:Value):(Li v).noref=true:=by
 unfold Li
 split <;> try (simp [AV.noref]; done)
 split <;> simp [AV.noref,norefs]
theorem OC (v:Value):(Ax v).noref=true:=by
 unfold Ax
 split
 ·split
  ·simp only [AV.noref]
   refine NI fun a ha=>?_
   obtain ⟨x,_,rfl⟩:=lx35.1 ha
   exact Mc x
  ·simp [AV.noref]
 ·exact Mc _
theorem NJ {v:AV} (h:v.noref=true) (n:Nat):norefs (List.replicate n v)=true:=
 NI fun a ha=>by rw [List.eq_of_mem_replicate ha]; exact h
theorem C9 (H:List Blk) (B:Blk):Cs (H++[B])=B.els:=by
 induction H with
 | nil=>rfl
 | cons x r ih=>cases r with
  | nil=>rfl
  | cons y r=>exact ih
def Hy (o:Oper):Bool:=o.guard.isNone && IF o.op
def W0 (rv:Option Nat) (id ver:Nat):AV:=match rv with
 | none=>.pt id ver 0 0
 | some n=>.sl id ver 0 n
def C6 (T:List AV):Option Nat→AV→List AV
 | some d,v=>T.set d v
 | none,_=>T
theorem Bt (T:List AV) (H:List Blk) (c:Nat) (d:Option Nat) (v:AV):St.put ⟨T,H,c⟩ d v=⟨C6 T d v,H,c⟩:=by cases d <;> rfl
theorem OD {o:Op} (h:IF o=true):isHeapOp o=true∧Bk o=false:=by
 cases o <;> simp_all [IF,isHeapOp,Bk]
theorem Ll {P:Program} {E:Env} {ops:Array Oper} {o:Oper} (hl:Hy o=true) {T:List AV} {H:List Blk} {c:Nat} {s':St} (h:Ag P E ops ⟨T,H,c⟩ o=some s'):
  Aw P ⟨T,H,c⟩ o.op o.dst=some s'∧∃ rv ty esz els tmp,s'=⟨C6 T o.dst (W0 rv H.length c),H++[⟨true,c,ty,esz,els,tmp⟩],c+1⟩∧
   (∀ H2 c2,Ag P E ops ⟨T,H2,c2⟩ o=some ⟨C6 T o.dst (W0 rv H2.length c2),H2++[⟨true,c2,ty,esz,els,tmp⟩],c2+1⟩)∧
   ((∀ t n parts,o.op≠.buildSlice t n parts)→norefs els=true):=by
 simp only [Hy,AH,Option.isNone_iff_eq_none] at hl
 obtain ⟨hg,hlo⟩:=hl
 obtain ⟨h1,h2⟩:=OD hlo
 have hst:∀ H2 c2,Ag P E ops ⟨T,H2,c2⟩ o=Aw P ⟨T,H2,c2⟩ o.op o.dst:=by
  intro H2 c2
  unfold Ag
  rw [hg]
  simp only [AQ,h2,h1,Fe,DD,lx9,Bool.not_true]
 rw [hst] at h
 refine ⟨h,?_⟩
 simp only [hst]
 cases ho:o.op with
 | alloc t=>
  rw [ho] at h
  simp only [Aw] at h ⊢
  split at h
  rotate_left
  ·cases h
  rename_i d htd
  split at h
  rotate_left
  ·cases h
  rename_i z hz
  split at h
  ·rename_i hst
   cases h
   refine ⟨none,_,_,_,_,by rw [Bt]; rfl,fun H2 c2=>?_,fun _=>?_⟩
   ·simp only [htd,hz,hst,lx8]
    rw [Bt]; rfl
   ·simp [norefs,OC]
  ·cases h
 | makeSlice t x y=>
  rw [ho] at h
  simp only [Aw] at h ⊢
  split at h
  rotate_left
  ·cases h
  rename_i d htd
  split at h
  rotate_left
  ·cases h
  rename_i el hel hlen
  split at h
  rotate_left
  ·cases h
  rename_i de hde
  split at h
  rotate_left
  ·cases h
  rename_i z k n k' m hz hxv hyv
  split at h
  rotate_left
  ·cases h
  rename_i hh
  cases h
  refine ⟨some n.toNat,_,_,_,_,by rw [Bt]; rfl,fun H2 c2=>?_,fun _=>?_⟩
  ·rw [if_pos hh,Bt]; rfl
  ·exact NJ (OC _) _
 | buildSlice t len parts=>
  rw [ho] at h
  simp only [Aw] at h ⊢
  split at h
  rotate_left
  ·cases h
  rename_i d htd
  split at h
  rotate_left
  ·cases h
  rename_i el hel hlen
  split at h
  rotate_left
  ·cases h
  rename_i de hde
  split at h
  rotate_left
  ·cases h
  rename_i z hz
  split at h
  rotate_left
  ·cases h
  rename_i es hes
  split at h
  rotate_left
  ·cases h
  rename_i hh
  cases h
  refine ⟨some len,_,_,_,_,by rw [Bt]; rfl,fun H2 c2=>?_,fun hb=>absurd rfl (hb _ _ _)⟩
  rw [if_pos hh,Bt]; rfl
 | _=>rw [ho] at hlo; simp [IF] at hlo
section
variable {P:Program} {w:World} {X:Nat→Prop} {hc:HC}
theorem push_ok {w':World} {cells:Array Value} {ty:Nat} (hr:HR w X hc) (hos:w'.os=w.os) (htape:w'.tape=w.tape) (hout:w'.output=w.output) (hheap:w'.heap=w.heap.push (.cells cells ty (0,0))):
  HR w' (fun b=>X b∨b=w.heap.size) hc∧Evo w X hc w' (fun b=>X b∨b=w.heap.size) hc:=by
 have hold:∀ b,b < w.heap.size→w'.heap[b]?=w.heap[b]?:=by
  intro b hb
  rw [hheap,Array.getElem?_push,if_neg (by omega)]
 have hsize:w'.heap.size=w.heap.size+1:=by rw [hheap]; simp
 have ev:Evo w X hc w' (fun b=>X b∨b=w.heap.size) hc:=by
  refine ⟨hos,htape,hout,by omega,fun b hb _=>hold b hb,?_,?_,Av _,fun _ B' h1 h2 _=>⟨B',h1,h2,rfl,rfl,rfl,rfl,rfl⟩,fun _ B' _ o h1 h2 h3 _=>⟨B',o,h1,h2,h3⟩⟩
  ·exact Bd0
  ·intro b hb
   constructor
   ·rintro (h | h)
    ·exact h
    ·omega
   ·exact .inl
 refine ⟨⟨?_,hr.inj,?_⟩,ev⟩
 ·intro id B h1 h2
  exact hr.rest ev h1 h2 rfl (fun b o hl=>hold b (hr.lt b (hr.own ⟨id,B,o,h1,h2,hl⟩))) (fun _=>.inl)
 ·rintro b (hb | hb)
  ·have:=hr.lt b hb; omega
  ·omega
def RvV (w:World) (rv:Option Nat) (ty esz n0 b:Nat) (c:Value):Prop:=match rv with
 | none=>c=.pointer (some ⟨b,0,none⟩)
 | some n=>n≤n0∧((n=0∧∃ a,c=.slice a 0 0)∨∃ cap k,c=.slice (some ⟨b,0,none⟩) n cap∧n≤cap∧cap≤maxLen∧w.shape? b=some (ty,k)∧cap * esz≤k)
structure Born (w:World) (X:Nat→Prop) (hc:HC) (b ty esz:Nat) (els:List AV):Prop where
 lt:b < w.heap.size
 x:X b
 no:¬ Own hc b
 hp:∃ cs,w.heap[b]?=some (.cells cs ty (0,0))
 len:els.length≤Dl
 nr:norefs els=true
 els:∀ i e,els[i]?=some e→e.cells.length=esz∧∀ j a,e.cells[j]?=some a→∃ c,w.cell? ⟨b,i * esz+j,none⟩=some c∧c.oneCell'=true∧VR w X none a c
theorem Born.mono {w' X' hc' b ty esz els} (h:Born w X hc b ty esz els) (ev:Evo w X hc w' X' hc') (hr:HR w X hc):Born w' X' hc' b ty esz els where
 lt:=Lg h.lt ev.size
 x:=(ev.xs b h.lt).2 h.x
 no:=by
  rintro ⟨id,B,o,h1,h2,h3⟩
  obtain ⟨B',o',g1,g2,g3⟩:=ev.fresh id B b o h1 h2 h3 h.lt
  exact h.no ⟨id,B',o',g1,g2,g3⟩
 hp:=by rw [ev.keep b h.lt h.no]; exact h.hp
 len:=h.len
 nr:=h.nr
 els:=by
  intro i e he
  obtain ⟨g1,g2⟩:=h.els i e he
  refine ⟨g1,fun j a ha=>?_⟩
  obtain ⟨c,k1,k2,k3⟩:=g2 j a ha
  exact ⟨c,by rw [ev.cell (a:=⟨b,i * esz+j,none⟩) h.lt h.no]; exact k1,k2,k3.mono_none ev hr⟩
theorem RvV.mono {w' X' hc' rv ty esz n0 b c} (h:RvV w rv ty esz n0 b c) (ev:Evo w X hc w' X' hc'):RvV w' rv ty esz n0 b c:=by
 cases rv with
 | none=>exact h
 | some n=>
  obtain ⟨h0,h⟩:=h
  refine ⟨h0,?_⟩
  rcases h with h | ⟨cap,k,g1,g2,g3,g4,g5⟩
  ·exact .inl h
  ·exact .inr ⟨cap,k,g1,g2,g3,ev.shape _ _ g4,g5⟩
theorem RvV.one {rv ty esz n0 b c} (h:RvV w rv ty esz n0 b c):c.oneCell'=true:=by
 cases rv with
 | none=>simp only [RvV] at h; subst h; rfl
 | some n=>
  obtain ⟨h0,h⟩:=h
  rcases h with ⟨_,a,rfl⟩ | ⟨cap,k,rfl,_⟩ <;> rfl
theorem Akc {T:List AV} {H:List Blk} {c:Nat} {loc:Nat→Option (Nat × Nat)} {a:Act} {o:Oper} {rv:Option Nat} {ty esz:Nat} {els:List AV} {tmp:Bool} (hs:SR w X loc ⟨T,H,c⟩ a)
  (hn:HsNew P w X loc ⟨T,H,c⟩ a o ⟨C6 T o.dst (W0 rv H.length c),H++[⟨true,c,ty,esz,els,tmp⟩],c+1⟩) (hnr:norefs els=true):
  ∃ n c' w',(execOp a.eval o).run P w=.ok n w'∧(n=.value c'∨n=.skip∧c'=undef)∧
   SR w' (fun b=>X b∨b=w.heap.size) loc ⟨C6 T o.dst .jk,H,c⟩ (a.put o.dst c')∧Evo w X ⟨loc,H,c⟩ w' (fun b=>X b∨b=w.heap.size) ⟨loc,H,c⟩∧
   Born w' (fun b=>X b∨b=w.heap.size) ⟨loc,H,c⟩ w.heap.size ty esz els∧
   ∀ d,o.dst=some d→d < T.length→∃ v,(a.put o.dst c').tmps.toList[d]?=some v∧RvV w' rv ty esz els.length w.heap.size v:=by
 obtain ⟨n,c',w',cells,ty',h1,h2,⟨e1,e2,e3,e4⟩,h3,h4⟩:=hn
 obtain ⟨p1,p2⟩:=push_ok hs.hr e1 e2 e3 e4
 have hB:(H++[(⟨true,c,ty,esz,els,tmp⟩:Blk)])[H.length]?=some ⟨true,c,ty,esz,els,tmp⟩:=AZ
 have hblk:=h3.hr.blk H.length _ hB rfl
 simp only [St.hc,lx8] at hblk
 obtain ⟨b1,b2,b3,b4,b5⟩:=hblk
 have base:SR w' (fun b=>X b∨b=w.heap.size) loc ⟨T,H,c⟩ a:=⟨p1,hs.tm.mono p2 hs.hr,hs.df⟩
 refine ⟨n,c',w',h1,h2,?_,p2,⟨?_,.inr rfl,?_,b4,b2,hnr,?_⟩,?_⟩
 ·have:=base.put o.dst (v:=.jk) (c:=c') .jk
  rwa [Bt] at this
 ·rw [e4]; simp
 ·intro ho
  have:=hs.hr.lt _ (hs.hr.own ho)
  omega
 ·intro i e he
  obtain ⟨g1,g2⟩:=b5 i e he
  refine ⟨g1,fun j x hx=>?_⟩
  obtain ⟨u,k1,k2,k3⟩:=g2 j x hx
  exact ⟨u,by simpa using k1,k2,k3.close⟩
 ·intro d hd hlt
  have hl:T.length=a.tmps.size:=hs.tm.1.trans lx29
  have hget:(a.put o.dst c').tmps.toList[d]?=some c':=by
   rw [hd]; simp [Act.put,←hl,hlt]
  refine ⟨c',hget,?_⟩
  have hv:=h3.tm.2 d (W0 rv H.length c) c' (by rw [hd]; simp [C6,hlt]) hget
  cases rv with
  | none=>
   cases hv with
   | pt _ q=>
    obtain ⟨_,q⟩:=q _ rfl
    obtain ⟨b,bs,q1,q2⟩:=q _ hB rfl rfl
    simp only [St.hc,lx8,lx16,lx40] at q1
    obtain ⟨rfl,rfl⟩:=q1
    simpa [RvV] using q2
  | some n=>
   cases hv with
   | sl _ q=>
    obtain ⟨_,q⟩:=q _ rfl
    obtain ⟨q0,q⟩:=q _ hB rfl rfl
    refine ⟨by simpa using q0,?_⟩
    rcases q with q | ⟨b,bs,cap,k,q1,q2,q3,q4,q5,q6⟩
    ·exact .inl q
    ·simp only [St.hc,lx8,lx16,lx40] at q1
     obtain ⟨rfl,rfl⟩:=q1
     exact .inr ⟨cap,k,by simpa using q2,q3,q4,q5,by simpa using q6⟩
theorem VR.grow {hc':HC} (hP:∀ id ver i off v,PtOk hc id ver i off v→PtOk hc' id ver i off v) (hS:∀ id ver lo len v,SlOk w hc id ver lo len v→SlOk w hc' id ver lo len v)
  {o:Option HC} {a:AV} {v:Value} (h:VR w X o a v):o=some hc→VR w X (some hc') a v:=by
 induction h with
 | sc h=>exact fun _=>.sc h
 | un=>exact fun _=>.un
 | jk=>exact fun _=>.jk
 | ag hl h1 h2 ih=>exact fun e=>.ag hl (fun i a v ha hv=>ih i a v ha hv e) h2
 | tu hl h1 ih=>exact fun e=>.tu hl (fun i a v ha hv=>ih i a v ha hv e)
 | pt h1 h2=>exact fun e=>.pt h1 (fun hc1 e1=>by cases e1; exact hP _ _ _ _ _ (h2 hc e))
 | sl h1 h2=>exact fun e=>.sl h1 (fun hc1 e1=>by cases e1; exact hS _ _ _ _ _ (h2 hc e))
 | vw0 hz hmax=>exact fun _=>.vw0 hz hmax
 | vw1 f hne hX hb hcap hz hmax hsz hcl hv ih=>exact fun _=>.vw1 f hne hX hb hcap hz hmax hsz hcl hv
 | vp f hX hb hsz hcl hv ih=>exact fun _=>.vp f hX hb hsz hcl hv
 | fn hl h1 ih=>exact fun e=>.fn hl (fun i a v ha hv=>ih i a v ha hv e)
theorem Az0 {T:List AV} {H:List Blk} {c:Nat} {loc:Nat→Option (Nat × Nat)} {a:Act} {dst:Option Nat} {rv:Option Nat} {b ty esz:Nat} {els:List AV} {tmp:Bool} (hs:SR w X loc ⟨T,H,c⟩ a)
  (hb:Born w X ⟨loc,H,c⟩ b ty esz els) (hv:∀ d,dst=some d→d < T.length→∃ v,a.tmps.toList[d]?=some v∧RvV w rv ty esz els.length b v):
  SR w X (fun k=>if k=H.length then some (b,0) else loc k) ⟨C6 T dst (W0 rv H.length c),H++[⟨true,c,ty,esz,els,tmp⟩],c+1⟩ a:=by
 have hB:(H++[(⟨true,c,ty,esz,els,tmp⟩:Blk)])[H.length]?=some ⟨true,c,ty,esz,els,tmp⟩:=AZ
 have hne:∀ k,k≠H.length→(H++[(⟨true,c,ty,esz,els,tmp⟩:Blk)])[k]?=H[k]?:=by
  intro k hk
  rw [lx18]
  split
  ·rfl
  ·rename_i h
   rw [lx30 (show H.length≤k by omega),lx30]
   simp; omega
 have hP:∀ id ver i off v,PtOk ⟨loc,H,c⟩ id ver i off v→PtOk ⟨fun k=>if k=H.length then some (b,0) else loc k,H++[⟨true,c,ty,esz,els,tmp⟩],c+1⟩ id ver i off v:=by
  exact Bcm
 have hS:∀ id ver lo len v,SlOk w ⟨loc,H,c⟩ id ver lo len v→SlOk w ⟨fun k=>if k=H.length then some (b,0) else loc k,H++[⟨true,c,ty,esz,els,tmp⟩],c+1⟩ id ver lo len v:=by
  exact Bcm
 have hg:∀ {x:AV} {v:Value},VR w X (some ⟨loc,H,c⟩) x v→VR w X (some ⟨fun k=>if k=H.length then some (b,0) else loc k,H++[⟨true,c,ty,esz,els,tmp⟩],c+1⟩) x v:=
  fun h=>h.grow hP hS rfl
 have hr:=hs.hr
 refine ⟨⟨?_,?_,hr.lt⟩,?_,hs.df⟩
 ·intro id B e1 e2
  by_cases hid:id=H.length
  ·subst hid
   simp only [St.hc] at e1
   rw [hB] at e1; cases e1
   refine ⟨by simp [St.hc],hb.len,?_⟩
   simp only [St.hc,lx8]
   refine ⟨hb.x,hb.hp,?_⟩
   intro i e he
   obtain ⟨g1,g2⟩:=hb.els i e he
   refine ⟨g1,fun j x hx=>?_⟩
   obtain ⟨u,k1,k2,k3⟩:=g2 j x hx
   exact ⟨u,by simpa using k1,k2,F7 x (OA (Fi hb.nr e (lx25 he)) x (lx25 hx)) k3⟩
  ·simp only [St.hc] at e1
   rw [hne id hid] at e1
   obtain ⟨g1,g2,g3⟩:=hr.blk id B e1 e2
   refine ⟨Nat.lt_succ_of_lt g1,g2,?_⟩
   simp only [St.hc,hid,lx9]
   simp only [St.hc] at g3
   split at g3
   ·exact g3
   ·obtain ⟨k1,k2,k3⟩:=g3
    refine ⟨k1,k2,fun i e he=>?_⟩
    obtain ⟨m1,m2⟩:=k3 i e he
    refine ⟨m1,fun j x hx=>?_⟩
    obtain ⟨u,n1,n2,n3⟩:=m2 j x hx
    exact ⟨u,n1,n2,hg n3⟩
 ·intro id id' B1 B2 b1 o o' e1 e2 e3 e4 e5 e6
  simp only [St.hc] at e1 e2 e5 e6
  by_cases hi:id=H.length <;> by_cases hi':id'=H.length
  ·rw [hi,hi']
  ·simp only [hi,lx8,lx16,lx40] at e5
   simp only [hi',lx9] at e6
   rw [hne id' hi'] at e2
   exact absurd ⟨id',B2,o',e2,e4,by rw [e5.1]; exact e6⟩ hb.no
  ·simp only [hi',lx8,lx16,lx40] at e6
   simp only [hi,lx9] at e5
   rw [hne id hi] at e1
   exact absurd ⟨id,B1,o,e1,e3,by rw [e6.1]; exact e5⟩ hb.no
  ·simp only [hi,lx9] at e5
   simp only [hi',lx9] at e6
   rw [hne id hi] at e1
   rw [hne id' hi'] at e2
   exact hr.inj id id' B1 B2 b1 o o' e1 e2 e3 e4 e5 e6
 ·have htm:VL w X (some ⟨fun k=>if k=H.length then some (b,0) else loc k,H++[⟨true,c,ty,esz,els,tmp⟩],c+1⟩) T a.tmps.toList:=⟨hs.tm.1,fun i x v h1 h2=>hg (hs.tm.2 i x v h1 h2)⟩
  cases hd:dst with
  | none=>exact htm
  | some d=>
   simp only [C6]
   by_cases hlt:d < T.length
   ·obtain ⟨v,g1,g2⟩:=hv d hd hlt
    have hone:=g2.one
    have hVR:VR w X (some ⟨fun k=>if k=H.length then some (b,0) else loc k,H++[⟨true,c,ty,esz,els,tmp⟩],c+1⟩) (W0 rv H.length c) v:=by
     cases rv with
     | none=>
      refine .pt hone ?_
      intro hc1 he
      cases he
      refine ⟨by simp,fun B e1 e2 e3=>?_⟩
      refine ⟨b,0,by simp,?_⟩
      simp only [RvV] at g2
      rw [g2]; simp
     | some n=>
      refine .sl (by
       rcases g2.2 with ⟨q1,q,q2⟩ | ⟨cap,k,q2,_⟩
       ·subst q1; exact ⟨q,0,q2⟩
       ·exact ⟨_,cap,q2⟩) ?_
      intro hc1 he
      cases he
      refine ⟨by simp,fun B e1 e2 e3=>?_⟩
      simp only at e1
      rw [hB] at e1; cases e1
      obtain ⟨q0,q⟩:=g2
      refine ⟨by simpa using q0,?_⟩
      rcases q with q | ⟨cap,k,q2,q3,q4,q5,q6⟩
      ·exact .inl q
      ·exact .inr ⟨b,0,cap,k,by simp,by rw [q2]; simp,q3,q4,q5,by simpa using q6⟩
    have hset:=htm.set d hVR
    have hsame:a.tmps.toList.set d v=a.tmps.toList:=by
     refine lx65 fun i=>?_
     by_cases hi:d=i
     ·subst hi
      rw [List.getElem?_set_self (by rw [←hs.tm.1]; exact hlt),g1]
     ·rw [lx51 hi]
    rw [hsame] at hset
    exact hset
   ·rw [lx71 (by omega)]; exact htm
theorem Aqy {w0:World} {X0:Nat→Prop} {Cc:HC} {loc:Nat→Option (Nat × Nat)} {H:List Blk} {c b:Nat} (B:Blk) (hv:B.ver=c) (ev:Evo w0 X0 Cc w X ⟨loc,H,c⟩) (hb:w0.heap.size≤b):
  Evo w0 X0 Cc w X ⟨fun k=>if k=H.length then some (b,0) else loc k,H++[B],c+1⟩:=by
 have hne:∀ k,k≠H.length→(H++[B])[k]?=H[k]?:=by
  intro k hk
  rw [lx18]
  split
  ·rfl
  ·rename_i h
   rw [lx30 (show H.length≤k by omega),lx30]
   simp; omega
 have hcn:Cc.cnt≤c:=ev.cnt
 refine ⟨ev.os,ev.tape,ev.output,ev.size,ev.keep,ev.shape,ev.xs,Nat.le_succ_of_le hcn,?_,?_⟩
 ·intro id B' e1 e2 e3
  by_cases hid:id=H.length
  ·subst hid
   simp only at e1
   rw [lx62 (Av _)] at e1
   simp at e1
   subst e1
   omega
  ·simp only at e1
   rw [hne id hid] at e1
   simp only [hid,lx9]
   exact ev.old id B' e1 e2 e3
 ·intro id B' b' o e1 e2 e3 e4
  by_cases hid:id=H.length
  ·subst hid
   simp only [lx8,lx16,lx40] at e3
   omega
  ·simp only at e1
   rw [hne id hid] at e1
   simp only [hid,lx9] at e3
   exact ev.fresh id B' b' o e1 e2 e3 e4
theorem Ahf {loc:Nat→Option (Nat × Nat)} {H:List Blk} {c b b2 ty esz:Nat} {els:List AV} (B:Blk) (h:Born w X ⟨loc,H,c⟩ b2 ty esz els) (hne:b2≠b):
  Born w X ⟨fun k=>if k=H.length then some (b,0) else loc k,H++[B],c+1⟩ b2 ty esz els:=by
 refine ⟨h.lt,h.x,?_,h.hp,h.len,h.nr,h.els⟩
 rintro ⟨id,B',o,e1,e2,e3⟩
 by_cases hid:id=H.length
 ·subst hid
  simp only [lx8,lx16,lx40] at e3
  exact hne e3.1.symm
 ·simp only [hid,lx9] at e3
  simp only at e1
  rw [lx18] at e1
  split at e1
  ·exact h.no ⟨id,B',o,e1,e2,e3⟩
  ·rename_i hh
   rw [lx30 (by simp; omega)] at e1
   cases e1
end
inductive Frz (id:Nat) (B:Blk):AV→AV→Prop
 | same (a):Frz id B a a
 | jk (a):Frz id B a .jk
 | sl (lo len):Frz id B (.sl id B.ver lo len) (.vw false ((B.els.drop lo).take len))
 | pt (i off):Frz id B (.pt id B.ver i off) (.vp B.els i off)
 | ag {cs ds:List AV} (hl:cs.length=ds.length) (h:∀ (i:Nat) (a b:AV),cs[i]?=some a→ds[i]?=some b→Frz id B a b):Frz id B (.ag cs) (.ag ds)
theorem Az1 {w X hc id} {B:Blk} (hr:HR w X hc) (hB:hc.H[id]?=some B) (hl:B.live=true) (hn:∀ e ∈ B.els,∀ a ∈ e.cells,a.noref=true)
  {H':List Blk} {cnt':Nat} (hH:∀ (k:Nat) (B':Blk),H'[k]?=some B'→B'.live=true→∃ B0,hc.H[k]?=some B0∧B0.live=true∧B0.ver=B'.ver∧B0.esz=B'.esz∧B0.ty=B'.ty∧B0.els.length=B'.els.length) (hcn:hc.cnt≤cnt')
  {X':Nat→Prop} (hX':∀ b,X' b↔(X b∧∀ o,hc.loc id≠some (b,o))) {a a':AV} {v:Value} (hf:Frz id B a a') (hv:VR w X (some hc) a v):VR w X' (some ⟨hc.loc,H',cnt'⟩) a' v:=by
 have key:∀ {o:Option HC} {a:AV} {v:Value},VR w X o a v→(o=none→VR w X' none a v)∧(o=some hc→VR w X' (some ⟨hc.loc,H',cnt'⟩) a v):=by
  intro o a v h
  induction h with
  | sc h=>exact ⟨fun _=>.sc h,fun _=>.sc h⟩
  | un=>exact ⟨fun _=>.un,fun _=>.un⟩
  | jk=>exact ⟨fun _=>.jk,fun _=>.jk⟩
  | ag hl h1 h2 ih=>exact ⟨fun e=>.ag hl (fun i a v ha hv=>(ih i a v ha hv).1 e) h2,fun e=>.ag hl (fun i a v ha hv=>(ih i a v ha hv).2 e) h2⟩
  | tu hl h1 ih=>exact ⟨fun e=>.tu hl (fun i a v ha hv=>(ih i a v ha hv).1 e),fun e=>.tu hl (fun i a v ha hv=>(ih i a v ha hv).2 e)⟩
  | pt h1 h2=>
   refine ⟨fun _=>.pt h1 (fun _ e=>by cases e),fun e=>.pt h1 (fun hc1 e1=>?_)⟩
   cases e1
   obtain ⟨q1,q2⟩:=h2 hc e
   refine ⟨Lg q1 hcn,fun B' e1 e2 e3=>?_⟩
   obtain ⟨B0,k1,k2,k3,k4,k5,k6⟩:=hH _ B' e1 e2
   obtain ⟨b,base,m1,m2⟩:=q2 B0 k1 k2 (by omega)
   exact ⟨b,base,m1,by rw [m2,k4]⟩
  | sl h1 h2=>
   refine ⟨fun _=>.sl h1 (fun _ e=>by cases e),fun e=>.sl h1 (fun hc1 e1=>?_)⟩
   cases e1
   obtain ⟨q1,q2⟩:=h2 hc e
   refine ⟨Lg q1 hcn,fun B' e1 e2 e3=>?_⟩
   obtain ⟨B0,k1,k2,k3,k4,k5,k6⟩:=hH _ B' e1 e2
   obtain ⟨m0,m1⟩:=q2 B0 k1 k2 (by omega)
   refine ⟨by omega,?_⟩
   rcases m1 with m1 | ⟨b,base,cap,n,n0,n1,n2,n3,n4,n5⟩
   ·exact .inl m1
   ·exact .inr ⟨b,base,cap,n,n0,by rw [n1,k4],n2,n3,by rw [←k5]; exact n4,by rw [←k4]; exact n5⟩
  | vw0 hz hmax=>exact ⟨fun _=>.vw0 hz hmax,fun _=>.vw0 hz hmax⟩
  | vw1 f hne hX hb hcap hz hmax hsz hcl hv ih=>
   have hX2:=fun h=>hX ((hX' _).1 h).1
   have h2:=fun i e j a h1 h2=>(ih i e j a h1 h2).1 rfl
   exact ⟨fun _=>.vw1 f hne hX2 hb hcap hz hmax hsz hcl h2,fun _=>.vw1 f hne hX2 hb hcap hz hmax hsz hcl h2⟩
  | vp f hX hb hsz hcl hv ih=>
   have hX2:=fun h=>hX ((hX' _).1 h).1
   have h2:=fun i e j a h1 h2=>(ih i e j a h1 h2).1 rfl
   exact ⟨fun _=>.vp f hX2 hb hsz hcl h2,fun _=>.vp f hX2 hb hsz hcl h2⟩
  | fn hl h1 ih=>exact ⟨fun e=>.fn hl (fun i a v ha hv=>(ih i a v ha hv).1 e),fun e=>.fn hl (fun i a v ha hv=>(ih i a v ha hv).2 e)⟩
 induction hf generalizing v with
 | same a=>exact (key hv).2 rfl
 | jk a=>exact .jk
 | ag hl' h ih=>
  cases hv with
  | ag hl1 h1 h2=>
   refine .ag (hl'.symm.trans hl1) (fun i b v hb hv=>?_) h2
   have hi:i < _:=(lx22.1 hb).1
   rename_i cs ds vs
   have hc:cs[i]?=some (cs[i]'(by omega)):=lx50 _
   exact ih i _ b hc hb (h1 i _ v hc hv)
 | pt i0 off=>
  cases hv with
  | pt q1 q2=>
   obtain ⟨r1,r2⟩:=q2 _ rfl
   obtain ⟨b,base,hloc,k1⟩:=r2 B hB hl rfl
   have hB2:=(hr.blk id B hB hl).2.2
   rw [hloc] at hB2
   obtain ⟨m1,⟨cs,m2⟩,m3⟩:=hB2
   subst k1
   exact VR.vp (w:=w) (X:=X') (o:=some ⟨hc.loc,H',cnt'⟩) (es:=B.els) (i:=i0) (off:=off) (b:=b) (base:=base) (esz:=B.esz)
    (fun i j=>(w.cell? ⟨b,base+i * B.esz+j,none⟩).getD undef) (fun h=>((hX' _).1 h).2 base hloc) (hr.lt b m1)
    (fun e he=>by
     obtain ⟨i,hi⟩:=lx44.1 he
     exact (m3 _ e hi).1)
    (fun i j hi hj=>by
     have he:B.els[i]?=some B.els[i]:=lx50 hi
     obtain ⟨q1,q2⟩:=m3 _ _ he
     obtain ⟨c,e1,e2,e3⟩:=q2 j (B.els[i].cells[j]'(by omega)) (by simp)
     rw [e1]
     exact ⟨rfl,e2⟩)
    (fun i e j a he ha=>by
     obtain ⟨q1,q2⟩:=m3 _ e he
     obtain ⟨c,e1,e2,e3⟩:=q2 j a ha
     rw [e1]
     exact ((key e3.close).1 rfl))
 | sl lo len=>
  cases hv with
  | sl q1 q2=>
   obtain ⟨r1,r2⟩:=q2 _ rfl
   obtain ⟨r3,r4⟩:=r2 B hB hl rfl
   have hlen:((B.els.drop lo).take len).length=len:=F6
   have hBk:=hr.blk id B hB hl
   rcases r4 with ⟨r4,p,hp⟩ | ⟨b,base,cap,nn,hloc,k1,k2,k3,k4,k5⟩
   ·exact Ajq
   ·have hB2:=hBk.2.2
    rw [hloc] at hB2
    obtain ⟨m1,⟨cs,m2⟩,m3⟩:=hB2
    subst k1
    by_cases h0:len=0
    ·exact Ajr
    ·have hne:(B.els.drop lo).take len≠[]:=by intro e; rw [e] at hlen; simp at hlen; omega
     have hget:∀ i e,((B.els.drop lo).take len)[i]?=some e→B.els[lo+i]?=some e:=by
      intro i e he
      rw [lx19] at he
      split at he
      ·rwa [lx20] at he
      ·cases he
     have:=VR.vw1 (w:=w) (X:=X') (o:=some ⟨hc.loc,H',cnt'⟩) (z:=false) (es:=(B.els.drop lo).take len) (b:=b) (base:=base+lo * B.esz) (cap:=cap) (esz:=B.esz)
      (fun i j=>(w.cell? ⟨b,base+lo * B.esz+i * B.esz+j,none⟩).getD undef) hne (fun h=>((hX' _).1 h).2 base hloc) (hr.lt b m1) (by rw [hlen]; exact k2) (fun h=>by cases h) k3
      (fun e he=>by
       obtain ⟨i,hi⟩:=lx44.1 he
       exact (m3 _ e (hget i e hi)).1)
      (fun i j hi hj=>by
       have he:((B.els.drop lo).take len)[i]?=some ((B.els.drop lo).take len)[i]:=lx50 hi
       obtain ⟨q1,q2⟩:=m3 _ _ (hget i _ he)
       obtain ⟨c,e1,e2,e3⟩:=q2 j (((B.els.drop lo).take len)[i].cells[j]'(by omega)) (by simp)
       rw [Gx,←F0] at e1
       rw [e1]
       exact ⟨rfl,e2⟩)
      (fun i e j a he ha=>by
       obtain ⟨q1,q2⟩:=m3 _ e (hget i e he)
       obtain ⟨c,e1,e2,e3⟩:=q2 j a ha
       rw [Gx,←F0] at e1
       rw [e1]
       exact ((key e3.close).1 rfl))
     rw [hlen] at this
     exact this
def Aas (id:Nat) (B:Blk):List AV→List AV→Prop
 | [],[]=>True
 | a::T,b::T'=>Frz id B a b∧Aas id B T T'
 | _,_=>False
theorem Tu {id B}:∀ {T T':List AV},Aas id B T T'→T.length=T'.length∧∀ (i:Nat) (b:AV),T'[i]?=some b→∃ a,T[i]?=some a∧Frz id B a b
 | [],[],_=>⟨rfl,fun i b h=>by simp at h⟩
 | a::T,b::T',h=>by
  obtain ⟨h1,h2⟩:=h
  obtain ⟨e1,e2⟩:=Tu h2
  refine ⟨by simp [e1],fun i c hc=>?_⟩
  cases i with
  | zero=>simp at hc; subst hc; exact ⟨a,rfl,h1⟩
  | succ i=>simp at hc; obtain ⟨a',k1,k2⟩:=e2 i c hc; exact ⟨a',by simpa using k1,k2⟩
 | [],_::_,h=>h.elim
 | _::_,[],h=>h.elim
def FrzB (id:Nat) (B:Blk) (A A':Blk):Prop:=
 A.live=true∧A.ver=A'.ver∧A.esz=A'.esz∧A.ty=A'.ty∧A.els.length=A'.els.length∧
  ∀ (i:Nat) (e e':AV),A.els[i]?=some e→A'.els[i]?=some e'→e.cells.length=e'.cells.length∧∀ (j:Nat) (a a':AV),e.cells[j]?=some a→e'.cells[j]?=some a'→Frz id B a a'
theorem FrzB.refl {id B} {A:Blk} (h:A.live=true):FrzB id B A A:=
 ⟨h,rfl,rfl,rfl,rfl,fun i e e' h1 h2=>by rw [h1] at h2; cases h2; exact ⟨rfl,fun j a a' h3 h4=>by rw [h3] at h4; cases h4; exact .same _⟩⟩
theorem NK {w:World} {X:Nat→Prop} {loc:Nat→Option (Nat × Nat)} {a:Act} {n0:Nat} {T T':List AV} {H H':List Blk} {c c':Nat} (id:Nat) (B:Blk) (hs:SR w X loc ⟨T,H,c⟩ a) (hB:H[id]?=some B) (hl:B.live=true) (hid:n0≤id) (hn:∀ e ∈ B.els,∀ a ∈ e.cells,a.noref=true)
  (hT:Aas id B T T') (hH:∀ (k:Nat) (A':Blk),H'[k]?=some A'→A'.live=true→k≠id∧∃ A,H[k]?=some A∧FrzB id B A A') (hc:c≤c'):
  ∃ X' loc',SR w X' loc' ⟨T',H',c'⟩ a∧∀ w0 X0 Cc,Cc.H.length=n0→Evo w0 X0 Cc w X ((⟨T,H,c⟩:St).hc loc)→Evo w0 X0 Cc w X' ((⟨T',H',c'⟩:St).hc loc'):=by
 obtain ⟨h1,h2,h3⟩:=hs
 have hH1:∀ (k:Nat) (B':Blk),H'[k]?=some B'→B'.live=true→∃ B0,(St.hc ⟨T,H,c⟩ loc).H[k]?=some B0∧B0.live=true∧B0.ver=B'.ver∧B0.esz=B'.esz∧B0.ty=B'.ty∧B0.els.length=B'.els.length:=by
  intro k A' e1 e2
  obtain ⟨_,A,q1,q2,q3,q4,q5,q6,_⟩:=hH k A' e1 e2
  exact ⟨A,q1,q2,q3,q4,q5,q6⟩
 have fz:∀ {a a':AV} {v:Value},Frz id B a a'→VR w X (some (St.hc ⟨T,H,c⟩ loc)) a v→VR w (fun b=>X b∧∀ o,loc id≠some (b,o)) (some ⟨loc,H',c'⟩) a' v:=
  fun hf hv=>Az1 (hc:=St.hc ⟨T,H,c⟩ loc) h1 hB hl hn hH1 hc (fun b=>Iff.rfl) hf hv
 refine ⟨fun b=>X b∧∀ o,loc id≠some (b,o),loc,⟨⟨?_,?_,fun b hb=>h1.lt b hb.1⟩,?_,h3⟩,?_⟩
 ·intro k A' e1 e2
  obtain ⟨hne,A,q1,q2,q3,q4,q5,q6,q7⟩:=hH k A' e1 e2
  obtain ⟨g1,g2,g3⟩:=h1.blk k A q1 q2
  refine ⟨by have:A.ver < c:=g1; show A'.ver < c'; omega,by omega,?_⟩
  have hloc:(St.hc ⟨T,H,c⟩ loc).loc k=loc k:=rfl
  rw [hloc] at g3
  show match loc k with | none=>A'.els=[] | some (b,base)=>_
  cases hk:loc k with
  | none=>
   rw [hk] at g3
   simp only at g3 ⊢
   have:=q6; rw [g3] at this
   exact lx60 this.symm
  | some p=>
   obtain ⟨b,base⟩:=p
   rw [hk] at g3
   simp only at g3 ⊢
   obtain ⟨m1,⟨cs,m2⟩,m3⟩:=g3
   refine ⟨⟨m1,fun o ho=>?_⟩,⟨cs,by rw [m2,q5]⟩,?_⟩
   ·exact hne (h1.inj k id A B b base o q1 hB q2 hl hk ho)
   ·intro i e' he'
    have hi:i < A'.els.length:=(lx22.1 he').1
    have he:A.els[i]?=some (A.els[i]'(by omega)):=lx50 _
    obtain ⟨n1,n2⟩:=m3 i _ he
    obtain ⟨n3,n4⟩:=q7 i _ e' he he'
    refine ⟨by rw [←n3,n1,q4],fun j a' ha'=>?_⟩
    have hj:j < e'.cells.length:=(lx22.1 ha').1
    have ha:(A.els[i]'(by omega)).cells[j]?=some ((A.els[i]'(by omega)).cells[j]'(by omega)):=lx50 _
    obtain ⟨cc,p1,p2,p3⟩:=n2 j _ ha
    exact ⟨cc,by rw [←q4]; exact p1,p2,fz (n4 j _ a' ha ha') p3⟩
 ·intro k k' A1 A2 b o o' e1 e2 e3 e4 e5 e6
  obtain ⟨_,B1,q1,q2,_⟩:=hH k A1 e1 e3
  obtain ⟨_,B2,q3,q4,_⟩:=hH k' A2 e2 e4
  exact h1.inj k k' B1 B2 b o o' q1 q3 q2 q4 e5 e6
 ·obtain ⟨e1,e2⟩:=Tu hT
  refine ⟨e1.symm.trans h2.1,fun i b v hb hv=>?_⟩
  obtain ⟨a0,k1,k2⟩:=e2 i b hb
  exact fz k2 (h2.2 i a0 v k1 hv)
 ·intro w0 X0 Cc hlen he
  refine ⟨he.os,he.tape,he.output,he.size,he.keep,he.shape,fun b hb=>?_,Qv he.cnt hc,?_,?_⟩
  ·refine ⟨fun h=>(he.xs b hb).1 h.1,fun h=>⟨(he.xs b hb).2 h,fun o ho=>?_⟩⟩
   obtain ⟨B1,o1,k1,_⟩:=he.fresh id B b o hB hl ho hb
   have:=(lx22.1 k1).1
   omega
  ·intro k A' e1 e2 e3
   obtain ⟨_,A,q1,q2,q3,q4,q5,q6,_⟩:=hH k A' e1 e2
   obtain ⟨B0,m1,m2,m3,m4,m5,m6,m7⟩:=he.old k A q1 q2 (by have:A'.ver < Cc.cnt:=e3; omega)
   exact ⟨B0,m1,m2,m3.trans q3,m4,m5.trans q4,m6.trans q5,m7.trans q6⟩
  ·intro k A' b o e1 e2 e3 hb
   obtain ⟨_,A,q1,q2,_⟩:=hH k A' e1 e2
   exact he.fresh k A b o q1 q2 e3 hb
theorem Aat {P:Program} {w:World} {X:Nat→Prop} {loc:Nat→Option (Nat × Nat)} {s s':St} {a:Act} {o:Oper} (hs:SR w X loc s a) (hl:Cl o.op=true) (h:Ei P s o.op o.dst=some s'):KQ P w X loc s a o s':=by
 obtain ⟨T,H,c⟩:=s
 unfold Ei at h
 cases hq:Aw P ⟨T,H,c⟩ o.op o.dst with
 | none=>rw [hq] at h; cases h
 | some s1=>
  rw [hq] at h
  simp only [Ah6] at h
  split at h
  rotate_left
  ·cases h
  rename_i hnr
  injection h with h
  have hlo:IF o.op=true:=by
   cases ho:o.op <;> rw [ho] at hl <;> simp_all [Cl,IF]
  obtain ⟨n,cv,w',cells,ty,r1,r2,⟨e1,e2,e3,e4⟩,r3,r4⟩:=Tt hlo hs hq
  have hform:∃ B m,B.live=true∧B.ver=c∧s1=⟨C6 T o.dst (.sl H.length c 0 m),H++[B],c+1⟩∧m=B.els.length:=by
   cases ho:o.op with
   | makeSlice t x y=>
    rw [ho] at hq
    simp only [Aw] at hq
    repeat' (split at hq <;> try (cases hq; done))
    cases hq
    exact ⟨_,_,rfl,rfl,by rw [Bt],by simp⟩
   | buildSlice t len parts=>
    rw [ho] at hq
    simp only [Aw] at hq
    repeat' (split at hq <;> try (cases hq; done))
    rename_i hes _
    cases hq
    refine ⟨_,_,rfl,rfl,by rw [Bt],?_⟩
    have hlen:∀ (ops:List (Nat × AV)) (sz:Nat) (es es':List AV),G5 sz es ops=some es'→es'.length=es.length:=by
     intro ops
     induction ops with
     | nil=>intro sz es es' h; simp only [G5,lx16] at h; rw [h]
     | cons p r ih=>
      intro sz es es' h
      simp only [G5] at h
      split at h
      ·rw [ih _ _ _ h]; simp
      ·cases h
    have:=hlen _ _ _ _ hes
    simp at this
    exact this.symm
   | _=>rw [ho] at hl; simp [Cl] at hl
  obtain ⟨B,m,b1,b2,rfl,b3⟩:=hform
  rw [C9] at hnr h
  have hB:(H++[B])[H.length]?=some B:=AZ
  have hview:(B.els.drop 0).take m=B.els:=by rw [lx72,b3,lx73]
  obtain ⟨X',loc',f1,f2⟩:=NK (n0:=H.length) (T':=C6 T o.dst (.vw false B.els)) (H':=H) (c':=c+1) H.length B r3 hB b1 (Av _)
   (fun e he x hx=>OA (Fi hnr e he) x hx)
   (by
    have hT:∀ (T:List AV),Aas H.length B T T:=by
     intro T
     induction T with
     | nil=>exact trivial
     | cons x r ih=>exact ⟨.same _,ih⟩
    have hset:∀ (T:List AV) (d:Nat),Aas H.length B (T.set d (.sl H.length c 0 m)) (T.set d (.vw false B.els)):=by
     intro T
     induction T with
     | nil=>intro d; exact trivial
     | cons x r ih=>
      intro d
      cases d with
      | zero=>
       refine ⟨?_,hT r⟩
       have:=Frz.sl (id:=H.length) (B:=B) 0 m
       rwa [hview,b2] at this
      | succ d=>exact ⟨.same _,ih d⟩
    cases o.dst with
    | none=>exact hT T
    | some d=>exact hset T d)
   (fun k A' h1 h2=>by
    have hk:k < H.length:=(lx22.1 h1).1
    exact ⟨by omega,A',by rw [lx61 hk]; exact h1,FrzB.refl h2⟩)
   (Av _)
  refine ⟨n,cv,w',X',loc',r1,r2,?_,?_⟩
  ·rw [←h,Bt]; exact f1
  ·rw [←h,Bt]
   exact f2 w X ((⟨T,H,c⟩:St).hc loc) rfl r4
end Go.SX
