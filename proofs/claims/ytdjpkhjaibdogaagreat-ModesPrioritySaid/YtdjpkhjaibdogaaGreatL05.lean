/-
  Lemmas towards ModesPriority (joined texts: SX6, SX7).
  Conditions: none.
-/
import Derived.Test.YtdjpkhjaibdogaaGreatL01
import Derived.Test.YtdjpkhjaibdogaaGreatL04
set_option linter.unusedSimpArgs false
set_option linter.unusedVariables false
set_option maxRecDepth 100000
namespace Go.SX
open Go.RowKit (Below)
def Cc:HC:=⟨fun _=>none,[],0⟩
def QQ:Nat→Prop:=fun _=>False
def Ia (P:Program) (f:FuncId):Prop:=∃ fn,P.funcs[f]?=some fn∧(fn.name == "runtime.NumGoroutine")=false∧fn.body.isNone=false
def Ap (P:Program) (f:FuncId) (args:List AV) (r:AV):Prop:=
 Ia P f∧∃ c,(∀ w X o,VR w X o r c)∧∀ (w:World) (cargs:Array Value),VL w QQ (some Cc) args cargs.toList→Calls P f cargs w fun e w'=>e=.returned c∧Below w.heap.size w w'
def HSpec (P:Program) (f:FuncId) (args:List AV) (H:List Blk) (cnt:Nat) (r:AV) (H':List Blk) (cnt':Nat):Prop:=
 Ia P f∧∀ (w:World) (X:Nat→Prop) (loc:Nat→Option (Nat × Nat)) (cargs:Array Value),HR w X ⟨loc,H,cnt⟩→VL w X (some ⟨loc,H,cnt⟩) args cargs.toList→
  Calls P f cargs w fun e w'=>∃ X' loc' c,e=.returned c∧HR w' X' ⟨loc',H',cnt'⟩∧VR w' X' (some ⟨loc',H',cnt'⟩) r c∧Evo w X ⟨loc,H,cnt⟩ w' X' ⟨loc',H',cnt'⟩
structure EnvOk (P:Program) (E:Env):Prop where
 p:∀ f args r,E.pcall f args=some r→Ap P f args r
 h:∀ f args H cnt r H' cnt',E.hcall f args H cnt=some (r,H',cnt')→HSpec P f args H cnt r H' cnt'
theorem Lj {w w':World} (h:Below w.heap.size w w') {a:Addr} {v:Value} (hc:w.cell? a=some v):w'.cell? a=some v:=by
 rw [h.cell (World.block_lt_of_cell? w a hc),hc]
theorem DL {w w':World} (h:Below w.heap.size w w') (X:Nat→Prop) (hc:HC):Evo w X hc w' X hc where
 os:=h.os
 tape:=h.tape
 output:=h.output
 size:=h.size
 keep b hb _:=h.block b hb
 shape b s hs:=by
  have hb:b < w.heap.size:=by
   unfold World.shape? at hs
   split at hs
   ·rename_i c e fr hh; exact (lx49.1 hh).1
   ·cases hs
  unfold World.shape? at *
  rw [h.block b hb]
  exact hs
 xs _ _:=Iff.rfl
 cnt:=Av _
 old _ B' h1 h2 _:=⟨B',h1,h2,rfl,rfl,rfl,rfl,rfl⟩
 fresh _ B' _ o h1 h2 h3 _:=⟨B',o,h1,h2,h3⟩
theorem HR.below {w w':World} {X hc} (h:Below w.heap.size w w') (hr:HR w X hc):HR w' X hc where
 blk id B h1 h2:=by
  obtain ⟨g1,g2,g3⟩:=hr.blk id B h1 h2
  refine ⟨g1,g2,?_⟩
  split at g3
  ·exact g3
  ·rename_i b base hloc
   obtain ⟨k1,⟨cs,k2⟩,k3⟩:=g3
   refine ⟨k1,⟨cs,by rw [h.block b (hr.lt b k1)]; exact k2⟩,fun i e he=>?_⟩
   obtain ⟨q1,q2⟩:=k3 i e he
   refine ⟨q1,fun j a ha=>?_⟩
   obtain ⟨c,e1,e2,e3⟩:=q2 j a ha
   exact ⟨c,Lj h e1,e2,e3.mono (DL h X hc) hr⟩
 inj:=hr.inj
 lt b hb:=Lg (hr.lt b hb) h.size
theorem VL.mono {w X hc w' X' hc' as vs} (h:Evo w X hc w' X' hc') (hr:HR w X hc) (hv:VL w X (some hc) as vs):VL w' X' (some hc') as vs:=
 ⟨hv.1,fun i a v h1 h2=>(hv.2 i a v h1 h2).mono h hr⟩
theorem SR.below {w w' X loc s a} (h:Below w.heap.size w w') (hs:SR w X loc s a):SR w' X loc s a:=
 ⟨hs.hr.below h,hs.tm.mono (DL h X _) hs.hr,hs.df⟩
theorem Kp (w:World):HR w QQ Cc where
 blk id B h1 _:=by simp [Cc] at h1
 inj id id' B B' b o o' h1:=by simp [Cc] at h1
 lt b hb:=hb.elim
mutual
theorem Ah9 {w X hc} (hr:HR w X hc):∀ (a:AV) {v:Value},VR w X (some hc) a v→VR w QQ (some Cc) (Am hc.H a) v
 | .sc x,v,h=>by cases h with | sc h=>exact .sc h
 | .un,v,h=>by cases h; exact .un
 | .jk,v,_=>.jk
 | .vw z es,v,h=>by
  cases h with
  | vw0 hz hm=>exact .vw0 hz hm
  | vw1 f hne hX hb hcap hz hmax hsz hcl hv=>exact .vw1 f hne (fun h=>h.elim) hb hcap hz hmax hsz hcl (fun i e j a h1 h2=>(hv i e j a h1 h2).antiX (fun _ h=>h.elim))
 | .vp es i off,v,h=>by
  cases h with
  | vp f hX hb hsz hcl hv=>exact .vp f (fun h=>h.elim) hb hsz hcl (fun i e j a h1 h2=>(hv i e j a h1 h2).antiX (fun _ h=>h.elim))
 | .ag cs,v,h=>by
  cases h with
  | ag hl h1 h2=>
   have:=Fg hr cs ⟨hl,h1⟩
   exact .ag this.1 this.2 h2
 | .tu cs,v,h=>by
  cases h with
  | tu hl h1=>
   have:=Fg hr cs ⟨hl,h1⟩
   exact .tu this.1 this.2
 | .fn f cs,v,h=>by
  cases h with
  | fn hl h1=>
   have:=Fg hr cs ⟨hl,h1⟩
   exact .fn this.1 this.2
 | .pt id ver i off,v,h=>by
  simp only [Am]
  split
  ·rename_i B hl
   obtain ⟨b,base,h1,h2,h3,⟨cs,h4⟩,h5⟩:=Gy hr h hl
   subst h2
   refine .vp (fun i j=>(w.cell? ⟨b,base+i * B.esz+j,none⟩).getD undef) (fun h=>h.elim) (hr.lt b h3) ?_ ?_ ?_
   ·exact Aym
   ·intro i j hi hj
    exact Aqn
   ·intro i e j a he ha
    obtain ⟨q1,q2⟩:=h5 i e he
    obtain ⟨c,e1,e2,e3⟩:=q2 j a ha
    rw [e1]
    exact e3.close.antiX (fun _ h=>h.elim)
  ·exact .jk
 | .sl id ver lo len,v,h=>by
  simp only [Am]
  split
  ·rename_i B hl
   obtain ⟨g1,g2,g3⟩:=Bc hl
   cases h with
   | sl q1 q2=>
    obtain ⟨r1,r2⟩:=q2 _ rfl
    obtain ⟨r3,r4⟩:=r2 B g1 g2 g3
    have hlen:((B.els.drop lo).take len).length=len:=F6
    have hB:=hr.blk id B g1 g2
    rcases r4 with ⟨r4,p,hp⟩ | ⟨b,base,cap,nn,hloc,k1,k2,k3,k4,k5⟩
    ·exact Ajq
    ·have hB2:=hB.2.2
     rw [hloc] at hB2
     obtain ⟨m1,⟨cs,m2⟩,m3⟩:=hB2
     subst k1
     by_cases h0:len=0
     ·exact Ajr
     ·have hne:(B.els.drop lo).take len≠[]:=by intro e; rw [e] at hlen; simp at hlen; omega
      have hget:∀ i e,((B.els.drop lo).take len)[i]?=some e→B.els[lo+i]?=some e:=by
       intro i e he
       rw [lx19] at he
       split at he
       ·rwa [lx20] at he
       ·cases he
      have:=VR.vw1 (w:=w) (X:=QQ) (o:=some Cc) (z:=false) (es:=(B.els.drop lo).take len) (b:=b) (base:=base+lo * B.esz) (cap:=cap) (esz:=B.esz)
       (fun i j=>(w.cell? ⟨b,base+lo * B.esz+i * B.esz+j,none⟩).getD undef) hne (fun h=>h.elim) (hr.lt b m1) (by rw [hlen]; exact k2) (fun h=>by cases h) k3
       (fun e he=>by
        obtain ⟨i,hi⟩:=lx44.1 he
        exact (m3 _ e (hget i e hi)).1)
       (fun i j hi hj=>by
        have he:((B.els.drop lo).take len)[i]?=some ((B.els.drop lo).take len)[i]:=lx50 hi
        obtain ⟨q1,q2⟩:=m3 _ _ (hget i _ he)
        obtain ⟨c,e1,e2,e3⟩:=q2 j (((B.els.drop lo).take len)[i].cells[j]'(by omega)) (by simp)
        rw [Gx,←F0] at e1
        rw [e1]
        exact ⟨rfl,e2⟩)
       (fun i e j a he ha=>by
        obtain ⟨q1,q2⟩:=m3 _ e (hget i e he)
        obtain ⟨c,e1,e2,e3⟩:=q2 j a ha
        rw [Gx,←F0] at e1
        rw [e1]
        exact e3.close.antiX (fun _ h=>h.elim))
      rw [hlen] at this
      exact this
  ·exact .jk
theorem Fg {w X hc} (hr:HR w X hc):∀ (as:List AV) {vs:List Value},VL w X (some hc) as vs→VL w QQ (some Cc) (Aj hc.H as) vs
 | [],vs,h=>by rw [h.unnil]; exact .nil
 | a::r,vs,h=>by
  obtain ⟨v,vs',rfl,h1,h2⟩:=h.uncons
  exact .cons (Ah9 hr a h1) (Fg hr r h2)
end
theorem F9 (H:List Blk):∀ l:List AV,Aj H l=l.map (Am H)
 | []=>rfl
 | a::r=>by rw [Aj,F9 H r]; rfl
section
variable {P:Program} {E:Env} {w:World} {X:Nat→Prop} {loc:Nat→Option (Nat × Nat)} {s:St} {a:Act} {v:AV}
theorem WW {f:FuncId} (h:Ia P f) (args:Array Value):rd P (callFunc f args) w=some (.enter f args):=by
 obtain ⟨fn,h1,h2,h3⟩:=h
 unfold callFunc
 simp only [Ah,G4,lx17,h1,h2,h3,DD,lx9,Al]
theorem Ad4 (hs:SR w X loc s a) {o:Oper} {g:Nat} {args:List AV} (ht:EN s o.op=some (g,args)) (hc:Ia P g):
  ∃ cargs:Array Value,rd P (execOp a.eval o) w=some (.enter g cargs)∧VL w X (some (s.hc loc)) args cargs.toList:=by
 unfold EN at ht
 split at ht
 ·rename_i f as ats ho
  have hf:=BV hs.tm f
  split at ht
  ·rename_i g' caps hev
   cases ht
   rw [hev] at hf
   generalize hq:a.eval f=c0 at hf
   cases hf with
   | @fn _ _ _ vs hl h1=>
    refine ⟨as.map a.eval++vs.toArray,?_,?_⟩
    ·unfold execOp
     simp only [ho,resolve,hq,Deferred.ofValue,Ah,Al,lx17,invoke,Array.empty_append,WW hc]
    ·have:=(Aan hs.tm as.toList).append ⟨hl,h1⟩
     simpa using this
  ·cases ht
 ·cases ht
theorem U8 (hE:EnvOk P E) (hs:SR w X loc s a) {o:Oper} (h:Jv P E s o.op=some v):
  ∃ c,VR w X (some (s.hc loc)) v c∧∀ w',Below w.heap.size w w'→o.quietAt P a (Below w.heap.size w) w' c:=by
 unfold Jv at h
 split at h
 ·split at h
  ·rename_i g args ht
   obtain ⟨hc,c,h1,h2⟩:=hE.p _ _ _ h
   obtain ⟨cargs,e1,e2⟩:=Ad4 hs ht hc
   refine ⟨c,h1 _ _ _,fun w' hb=>?_⟩
   have hrun:=EK (U3 (fun a v h=>Lj hb h) e1)
   unfold Oper.quietAt
   rw [hrun]
   refine ⟨rfl,?_⟩
   have hb0:=Fg hs.hr args e2
   have hb1:VL w' QQ (some Cc) (args.map (Am s.H)) cargs.toList:=by
    rw [←F9]
    exact hb0.mono (DL hb QQ Cc) (Kp w)
   exact (h2 w' cargs hb1).mono fun e w'' ⟨he,hw⟩=>⟨he,hb.trans (hw.mono hb.size)⟩
  ·cases h
 ·obtain ⟨c,e1,e2⟩:=Aqv hs h
  refine ⟨c,e2,fun w' hb=>?_⟩
  have hrun:=EK (U3 (fun a v h=>Lj hb h) e1)
  unfold Oper.quietAt
  rw [hrun]
  exact ⟨rfl,rfl⟩
theorem WX (hs:SR w X loc s a) (all:Array Oper) (j:Nat):VR w X (some (s.hc loc)) (Ao all s j) (((((all[j]?).bind (·.dst)).bind (a.tmps[·]?))).getD undef):=by
 unfold Ao
 cases h:(all[j]?).bind (·.dst) with
 | none=>exact .un
 | some d=>
  have:=BV hs.tm (.tmp d)
  simpa [ev,Act.eval] using this
theorem Mb (hs:SR w X loc s a) {all:Array Oper} {j:Nat} {b:Bool} (h:Ao all s j=.sc (.bool b)):yielded all a.tmps j=some b:=by
 have:=WX hs all j
 rw [h] at this
 unfold yielded
 generalize ((all[j]?).bind (·.dst)).bind (a.tmps[·]?)=q at *
 cases q with
 | none=>cases this
 | some x=>
  simp only [lx4] at this
  cases this
  rfl
theorem QR (hs:SR w X loc s a) {all:Array Oper} {j:Nat} (h:Ao all s j=.un):yielded all a.tmps j=none:=by
 have:=WX hs all j
 rw [h] at this
 unfold yielded
 generalize ((all[j]?).bind (·.dst)).bind (a.tmps[·]?)=q at *
 cases q with
 | none=>rfl
 | some x=>
  simp only [lx4] at this
  cases this
  rfl
theorem Aha (hE:EnvOk P E) (hs:SR w X loc s a) {all:Array Oper} {o:Oper} {s':St} (hp:AQ E s o.op=true) (h:Ag P E all s o=some s'):
  ∃ v c,s'=s.put o.dst v∧VR w X (some (s.hc loc)) v c∧
   if Region.wanted o (yielded all a.tmps)=true then ∀ w',Below w.heap.size w w'→o.quietAt P a (Below w.heap.size w) w' c else c=undef:=by
 unfold Ag at h
 unfold Region.wanted
 split at h
 ·rename_i hg
  rw [hg]
  simp only [hp,lx8,lx24] at h
  obtain ⟨v,hv,rfl⟩:=h
  obtain ⟨c,h1,h2⟩:=U8 hE hs hv
  exact ⟨v,c,rfl,h1,by simpa using h2⟩
 ·rename_i j want hg
  rw [hg]
  split at h
  ·rename_i b hgv
   simp only [Mb hs hgv]
   simp only [hp,lx8,lx24] at h
   obtain ⟨v,hv,rfl⟩:=h
   split at hv
   ·rename_i hbw
    subst hbw
    obtain ⟨c,h1,h2⟩:=U8 hE hs hv
    exact ⟨v,c,rfl,h1,by simpa using h2⟩
   ·rename_i hbw
    simp only [lx16] at hv
    subst hv
    refine ⟨.un,undef,rfl,.un,?_⟩
    simp [hbw]
  ·rename_i hgv
   simp only [QR hs hgv]
   cases h
   exact ⟨.un,undef,rfl,.un,by simp⟩
  ·cases h
theorem QS (hE:EnvOk P E) {all:Array Oper}:∀ (l:List Oper) {s s':St} {a:Act},Dm P E all l s=some s'→SR w X loc s a→
  wpQuiet P all (Below w.heap.size w) (fun a'=>SR w X loc s' a') l a
 | [],s,s',a,h,hs=>by simp only [Dm,lx16] at h; subst h; exact hs
 | o::r,s,s',a,h,hs=>by
  simp only [Dm] at h
  split at h
  ·rename_i hp
   split at h
   ·rename_i s1 h1
    obtain ⟨v,c,rfl,h2,h3⟩:=Aha hE hs hp h1
    have ih:=QS hE r h (hs.put o.dst h2)
    simp only [wpQuiet]
    split
    ·rename_i hw
     simp only [hw,lx8] at h3
     exact ⟨c,h3,ih⟩
    ·rename_i hw
     simp only [hw] at h3
     rw [if_neg (by simp)] at h3
     subst h3
     exact ih
   ·cases h
  ·cases h
theorem QT (hE:EnvOk P E) (hm:P.follows .mixedOrders=true) {id:Nat} {ops:Array Oper} (hB:Region.lexB .any ops=true) {s s':St} {a:Act}
  (h:Dm P E ops ops.toList s=some s') (hs:SR w X loc s a) {Q:Exit→Act→World→Prop} (hQ:∀ a' w',SR w' X loc s' a'→Below w.heap.size w w'→Q .normal a' w'):
  (Code.region id ops true).wp P Q a w:=by
 refine wp_region_quiet (C:=Below w.heap.size w) hm hB ⟨rfl,rfl,rfl,Av _,fun _ _=>rfl⟩ ?_
 have h1:=QS hE ops.toList h hs
 have mono:∀ (l:List Oper) (a:Act),wpQuiet P ops (Below w.heap.size w) (fun a'=>SR w X loc s' a') l a→wpQuiet P ops (Below w.heap.size w) (fun a'=>∀ w',Below w.heap.size w w'→Q .normal a' w') l a:=by
  intro l
  induction l with
  | nil=>exact fun a h w' hw=>hQ a w' (SR.below hw h) hw
  | cons o r ih=>
   intro a h
   simp only [wpQuiet] at h ⊢
   split
   ·rename_i hw
    simp only [hw,lx8] at h
    exact Oper.quiet_mono ih h
   ·rename_i hw
    simp only [hw] at h
    exact ih _ h
 exact mono _ _ h1
end
def Real (w:World) (X:Nat→Prop) (hc:HC) (cells:List Value) (base esz:Nat) (els:List AV):Prop:=
 ∀ i e,els[i]?=some e→e.cells.length=esz∧∀ j a,e.cells[j]?=some a→∃ c,cells[base+i * esz+j]?=some c∧c.oneCell'=true∧VR w X (some hc) a c
theorem Cm {w:World} {b:Nat} {cs:Array Value} {t:TypeId} {fr:Nat × Nat} (h:w.heap[b]?=some (.cells cs t fr)) (k:Nat):w.cell? ⟨b,k,none⟩=cs.toList[k]?:=by
 simp [World.cell?,h]
theorem ElsOk.real {w X hc b base B cs} (h:ElsOk w X hc b base B) (hh:w.heap[b]?=some (.cells cs B.ty (0,0))):Real w X hc cs.toList base B.esz B.els:=by
 intro i e he
 obtain ⟨h1,h2⟩:=h i e he
 refine ⟨h1,fun j a ha=>?_⟩
 obtain ⟨c,g1,g2,g3⟩:=h2 j a ha
 rw [Cm hh] at g1
 exact ⟨c,g1,g2,g3⟩
theorem Real.els {w X hc b base cs} {B:Blk} (h:Real w X hc cs.toList base B.esz B.els) (hh:w.heap[b]?=some (.cells cs B.ty (0,0))):ElsOk w X hc b base B:=by
 intro i e he
 obtain ⟨h1,h2⟩:=h i e he
 refine ⟨h1,fun j a ha=>?_⟩
 obtain ⟨c,g1,g2,g3⟩:=h2 j a ha
 rw [←Cm hh] at g1
 exact ⟨c,g1,g2,g3⟩
theorem Real.mono {w X hc w' X' hc' cells base esz els} (h:Evo w X hc w' X' hc') (hr:HR w X hc) (k:Real w X hc cells base esz els):Real w' X' hc' cells base esz els:=by
 intro i e he
 obtain ⟨h1,h2⟩:=k i e he
 refine ⟨h1,fun j a ha=>?_⟩
 obtain ⟨c,g1,g2,g3⟩:=h2 j a ha
 exact ⟨c,g1,g2,g3.mono h hr⟩
theorem HR.rest {w X hc w' X' hc'} (hr:HR w X hc) (ev:Evo w X hc w' X' hc') {id:Nat} {B:Blk} (h1:hc.H[id]?=some B) (h2:B.live=true)
  (hloc:hc'.loc id=hc.loc id) (hkeep:∀ b o,hc.loc id=some (b,o)→w'.heap[b]?=w.heap[b]?) (hX:∀ b,X b→X' b):
  B.ver < hc'.cnt∧B.els.length≤Dl∧
  match hc'.loc id with
  | none=>B.els=[]
  | some (b,base)=>X' b∧(∃ cs,w'.heap[b]?=some (.cells cs B.ty (0,0)))∧ElsOk w' X' hc' b base B:=by
 obtain ⟨g1,g2,g3⟩:=hr.blk id B h1 h2
 refine ⟨Lg g1 ev.cnt,g2,?_⟩
 rw [hloc]
 cases hl:hc.loc id with
 | none=>rw [hl] at g3; exact g3
 | some p=>
  obtain ⟨b,base⟩:=p
  rw [hl] at g3
  obtain ⟨k1,⟨cs,k2⟩,k3⟩:=g3
  have hk:=hkeep b base hl
  have hh:w'.heap[b]?=some (.cells cs B.ty (0,0)):=by rw [hk,k2]
  exact ⟨hX b k1,⟨cs,hh⟩,((k3.real k2).mono ev hr).els hh⟩
theorem Aar {w:World} {X:Nat→Prop} {hc:HC} (hr:HR w X hc) (id:Nat) (B:Blk) (cells:Array Value) (H':List Blk) (w':World)
  (hos:w'.os=w.os) (htape:w'.tape=w.tape) (hout:w'.output=w.output) (hheap:w'.heap=w.heap.push (.cells cells B.ty (0,0)))
  (hH:H'[id]?=some B) (hne:∀ k,k≠id→H'[k]?=hc.H[k]?) (h1:B.live=true) (h2:B.ver=hc.cnt) (h3:B.els.length≤Dl)
  (hel:Real w X hc cells.toList 0 B.esz B.els):
  HR w' (fun b=>X b∨b=w.heap.size) ⟨fun k=>if k=id then some (w.heap.size,0) else hc.loc k,H',hc.cnt+1⟩∧
  Evo w X hc w' (fun b=>X b∨b=w.heap.size) ⟨fun k=>if k=id then some (w.heap.size,0) else hc.loc k,H',hc.cnt+1⟩:=by
 have hold:∀ b,b < w.heap.size→w'.heap[b]?=w.heap[b]?:=by
  intro b hb
  rw [hheap,Array.getElem?_push,if_neg (by omega)]
 have hnew:w'.heap[w.heap.size]?=some (.cells cells B.ty (0,0)):=by rw [hheap]; simp
 have hsize:w'.heap.size=w.heap.size+1:=by rw [hheap]; simp
 have ev:Evo w X hc w' (fun b=>X b∨b=w.heap.size) ⟨fun k=>if k=id then some (w.heap.size,0) else hc.loc k,H',hc.cnt+1⟩:=by
  refine ⟨hos,htape,hout,by omega,fun b hb _=>hold b hb,?_,?_,by simp,?_,?_⟩
  ·exact Bd0
  ·intro b hb
   constructor
   ·rintro (h | h)
    ·exact h
    ·omega
   ·exact .inl
  ·intro k B' e1 e2 e3
   by_cases hk:k=id
   ·subst hk
    simp only at e1
    rw [hH] at e1; cases e1
    omega
   ·simp only at e1
    rw [hne k hk] at e1
    exact ⟨B',e1,e2,rfl,by simp [hk],rfl,rfl,rfl⟩
  ·intro k B' b o e1 e2 e3 e4
   by_cases hk:k=id
   ·simp [hk] at e3
    omega
   ·simp [hk] at e3
    simp only at e1
    rw [hne k hk] at e1
    exact ⟨B',o,e1,e2,e3⟩
 refine ⟨⟨?_,?_,?_⟩,ev⟩
 ·intro k B' e1 e2
  by_cases hk:k=id
  ·subst hk
   simp only at e1
   rw [hH] at e1; cases e1
   refine ⟨by simp [h2],h3,?_⟩
   simp only [lx8]
   exact ⟨Or.inr True.intro,⟨cells,hnew⟩,(hel.mono ev hr).els hnew⟩
  ·simp only at e1
   rw [hne k hk] at e1
   refine hr.rest ev e1 e2 (by simp [hk]) ?_ (fun _=>.inl)
   intro b o hl
   refine hold b (hr.lt b (hr.own ⟨k,B',o,e1,e2,hl⟩))
 ·intro k k' B1 B2 b o o' e1 e2 e3 e4 e5 e6
  by_cases hk:k=id <;> by_cases hk':k'=id
  ·rw [hk,hk']
  ·simp only [hk,lx8,lx16,lx40] at e5
   simp only [hk',lx9] at e6
   simp only at e2
   rw [hne k' hk'] at e2
   have:=hr.lt b (hr.own ⟨k',B2,o',e2,e4,e6⟩)
   omega
  ·simp only [hk',lx8,lx16,lx40] at e6
   simp only [hk,lx9] at e5
   simp only at e1
   rw [hne k hk] at e1
   have:=hr.lt b (hr.own ⟨k,B1,o,e1,e3,e5⟩)
   omega
  ·simp only [hk,lx9] at e5
   simp only [hk',lx9] at e6
   simp only at e1 e2
   rw [hne k hk] at e1
   rw [hne k' hk'] at e2
   exact hr.inj k k' B1 B2 b o o' e1 e2 e3 e4 e5 e6
 ·intro b hb
  rcases hb with hb | hb
  ·have:=hr.lt b hb; omega
  ·omega
theorem QU {w:World} {X:Nat→Prop} {hc:HC} (hr:HR w X hc) (id:Nat) (B B':Blk) (b base base' cnt':Nat) (cs cs':Array Value)
  (hB:hc.H[id]?=some B) (hl:B.live=true) (hloc:hc.loc id=some (b,base)) (hheap:w.heap[b]?=some (.cells cs B.ty (0,0))) (hsz:cs'.size=cs.size)
  (hty:B'.ty=B.ty) (hl':B'.live=true) (hlen:B'.els.length≤Dl)
  (hver:(B'.ver=B.ver∧base'=base∧B'.els.length=B.els.length∧B'.esz=B.esz∧cnt'=hc.cnt)∨(B'.ver=hc.cnt∧cnt'=hc.cnt+1))
  (hel:Real w X hc cs'.toList base' B'.esz B'.els):
  HR (w.setRow b cs') X ⟨fun k=>if k=id then some (b,base') else hc.loc k,hc.H.set id B',cnt'⟩∧
  Evo w X hc (w.setRow b cs') X ⟨fun k=>if k=id then some (b,base') else hc.loc k,hc.H.set id B',cnt'⟩:=by
 have hid:id < hc.H.length:=(lx22.1 hB).1
 have hH:(hc.H.set id B')[id]?=some B':=by simp [hid]
 have hne:∀ k,k≠id→(hc.H.set id B')[k]?=hc.H[k]?:=fun k hk=>by rw [lx51 (Ne.symm hk)]
 have hb:X b:=hr.own ⟨id,B,base,hB,hl,hloc⟩
 have hblt:=hr.lt b hb
 have hnew:(w.setRow b cs').heap[b]?=some (.cells cs' B.ty (0,0)):=setRow_heap w b cs cs' B.ty (0,0) hheap
 have hold:∀ k,k≠b→(w.setRow b cs').heap[k]?=w.heap[k]?:=fun k hk=>setRow_other w b k cs' hk
 have hbv:=(hr.blk id B hB hl).1
 have ev:Evo w X hc (w.setRow b cs') X ⟨fun k=>if k=id then some (b,base') else hc.loc k,hc.H.set id B',cnt'⟩:=by
  refine ⟨rfl,rfl,rfl,by simp [World.setRow],?_,?_,fun _ _=>Iff.rfl,?_,?_,?_⟩
  ·intro k hk hn
   refine hold k ?_
   rintro rfl
   exact hn ⟨id,B,base,hB,hl,hloc⟩
  ·intro k s hs
   by_cases hk:k=b
   ·subst hk
    unfold World.shape? at *
    rw [hheap] at hs
    rw [hnew]
    simp only [lx16] at hs ⊢
    rw [hsz]; exact hs
   ·unfold World.shape? at *
    rw [hold k hk]; exact hs
  ·rcases hver with h | h <;> simp only <;> omega
  ·intro k B1 e1 e2 e3
   by_cases hk:k=id
   ·subst hk
    simp only at e1
    rw [hH] at e1; cases e1
    rcases hver with h | h
    ·obtain ⟨v1,v2,v3,v4,v5⟩:=h
     exact ⟨B,hB,hl,v1.symm,by simp [hloc,v2],v4.symm,hty.symm,v3.symm⟩
    ·omega
   ·simp only at e1
    rw [hne k hk] at e1
    exact ⟨B1,e1,e2,rfl,by simp [hk],rfl,rfl,rfl⟩
  ·intro k B1 b1 o e1 e2 e3 e4
   by_cases hk:k=id
   ·subst hk
    simp only [lx8,lx16,lx40] at e3
    obtain ⟨e3,_⟩:=e3
    subst e3
    exact ⟨B,base,hB,hl,hloc⟩
   ·simp [hk] at e3
    simp only at e1
    rw [hne k hk] at e1
    exact ⟨B1,o,e1,e2,e3⟩
 refine ⟨⟨?_,?_,?_⟩,ev⟩
 ·intro k B1 e1 e2
  by_cases hk:k=id
  ·subst hk
   simp only at e1
   rw [hH] at e1; cases e1
   refine ⟨by rcases hver with h | h <;> simp only <;> omega,hlen,?_⟩
   simp only [lx8]
   rw [hty]
   refine ⟨hb,⟨cs',hnew⟩,?_⟩
   exact (hel.mono ev hr).els (by rw [hty]; exact hnew)
  ·simp only at e1
   rw [hne k hk] at e1
   refine hr.rest ev e1 e2 (by simp [hk]) ?_ (fun _ h=>h)
   intro b1 o hl1
   refine hold b1 ?_
   rintro rfl
   exact hk (hr.inj k id B1 B b1 o base e1 hB e2 hl hl1 hloc)
 ·intro k k' B1 B2 b1 o o' e1 e2 e3 e4 e5 e6
  by_cases hk:k=id <;> by_cases hk':k'=id
  ·rw [hk,hk']
  ·simp only [hk,lx8,lx16,lx40] at e5
   simp only [hk',lx9] at e6
   simp only at e2
   rw [hne k' hk'] at e2
   rw [hk]
   exact (hr.inj k' id B2 B b1 o' base e2 hB e4 hl e6 (by rw [hloc,e5.1])).symm
  ·simp only [hk',lx8,lx16,lx40] at e6
   simp only [hk,lx9] at e5
   simp only at e1
   rw [hne k hk] at e1
   rw [hk']
   exact hr.inj k id B1 B b1 o base e1 hB e3 hl e5 (by rw [hloc,e6.1])
  ·simp only [hk,lx9] at e5
   simp only [hk',lx9] at e6
   simp only at e1 e2
   rw [hne k hk] at e1
   rw [hne k' hk'] at e2
   exact hr.inj k k' B1 B2 b1 o o' e1 e2 e3 e4 e5 e6
 ·intro b1 h1
  have:=hr.lt b1 h1
  simpa [World.setRow] using this
theorem Tm {w:World} {X:Nat→Prop} {hc:HC} (hr:HR w X hc) {H':List Blk} {cnt':Nat} (hH:∀ (id:Nat) (B:Blk),H'[id]?=some B→B.live=true→hc.H[id]?=some B) (hcnt:hc.cnt≤cnt'):
  HR w X ⟨hc.loc,H',cnt'⟩∧Evo w X hc w X ⟨hc.loc,H',cnt'⟩:=by
 have ev:Evo w X hc w X ⟨hc.loc,H',cnt'⟩:=by
  refine ⟨rfl,rfl,rfl,Av _,fun _ _ _=>rfl,fun _ _ h=>h,fun _ _=>Iff.rfl,hcnt,?_,?_⟩
  ·intro k B e1 e2 e3
   exact ⟨B,hH k B e1 e2,e2,rfl,rfl,rfl,rfl,rfl⟩
  ·intro k B b o e1 e2 e3 e4
   exact ⟨B,o,hH k B e1 e2,e2,e3⟩
 refine ⟨⟨?_,?_,hr.lt⟩,ev⟩
 ·intro k B e1 e2
  exact hr.rest ev (hH k B e1 e2) e2 rfl (fun _ _ _=>rfl) (fun _ h=>h)
 ·intro k k' B1 B2 b o o' e1 e2 e3 e4 e5 e6
  exact hr.inj k k' B1 B2 b o o' (hH _ _ e1 e3) (hH _ _ e2 e4) e3 e4 e5 e6
theorem Ek {α:Type}:∀ (xs cs:List α) (off j:Nat),off+xs.length≤cs.length→(setAll cs off xs)[j]?=if off≤j∧j < off+xs.length then xs[j - off]? else cs[j]?
 | [],cs,off,j,_=>by simp [setAll]; omega
 | x::r,cs,off,j,h=>by
  simp only [lx52] at h
  rw [setAll,Ek r (cs.set off x) (off+1) j (by simp; omega)]
  by_cases h1:off=j
  ·subst h1
   have:off < cs.length:=An
   rw [if_neg (by omega),if_pos (by simp)]
   simp [this]
  ·by_cases h2:off+1≤j∧j < off+1+r.length
   ·rw [if_pos h2,if_pos (by simp; omega)]
    rw [show j - off=(j - (off+1))+1 by omega,lx53]
   ·rw [if_neg h2,if_neg (by simp; omega),lx51 h1]
def Bx {α:Type} (cs:List α) (p:Nat) (news:List α):List α:=cs.take p++news++cs.drop (p+news.length)
theorem Ft {α:Type} (cs:List α) (p:Nat) (news:List α) (h:p+news.length≤cs.length):(Bx cs p news).length=cs.length:=by
 simp [Bx]; omega
theorem Dr {α:Type} (cs:List α) (p:Nat) (news:List α) (h:p+news.length≤cs.length) (k:Nat):
  (Bx cs p news)[k]?=if p≤k∧k < p+news.length then news[k - p]? else cs[k]?:=by
 unfold Bx
 have hp:(cs.take p).length=p:=F6
 rw [lx6,lx18,hp]
 by_cases h1:k < p
 ·rw [if_pos h1,if_neg (by omega),lx19,if_pos h1]
 ·rw [if_neg h1,lx18]
  by_cases h2:k - p < news.length
  ·rw [if_pos h2,if_pos (by omega)]
  ·rw [if_neg h2,if_neg (by omega),lx20]
   congr 1
   omega
theorem DE {k i esz:Nat} (h:k < i):k * esz+esz≤i * esz:=by
 have:=Qw esz (show k+1≤i from h)
 rwa [Gx,Nat.one_mul] at this
section
variable {P:Program} {w:World} {X:Nat→Prop} {loc:Nat→Option (Nat × Nat)} {s:St} {a:Act}
def KQ (P:Program) (w:World) (X:Nat→Prop) (loc:Nat→Option (Nat × Nat)) (s:St) (a:Act) (o:Oper) (s':St):Prop:=
 ∃ n c w' X' loc',(execOp a.eval o).run P w=.ok n w'∧(n=.value c∨n=.skip∧c=undef)∧SR w' X' loc' s' (a.put o.dst c)∧Evo w X (s.hc loc) w' X' (s'.hc loc')
theorem Aqw (t:TypeId) (v:Value):(Instr.box t v).run P w=.ok (.pointer (some ⟨w.heap.size,0,none⟩)) { w with heap:=w.heap.push (.cells v.cells t) }:=rfl
def HsNew (P:Program) (w:World) (X:Nat→Prop) (loc:Nat→Option (Nat × Nat)) (s:St) (a:Act) (o:Oper) (s':St):Prop:=
 ∃ n c w' cells ty,(execOp a.eval o).run P w=.ok n w'∧(n=.value c∨n=.skip∧c=undef)∧(w'.os=w.os∧w'.tape=w.tape∧w'.output=w.output∧w'.heap=w.heap.push (.cells cells ty (0,0)))∧
  SR w' (fun b=>X b∨b=w.heap.size) (fun k=>if k=s.H.length then some (w.heap.size,0) else loc k) s' (a.put o.dst c)∧
  Evo w X (s.hc loc) w' (fun b=>X b∨b=w.heap.size) (s'.hc (fun k=>if k=s.H.length then some (w.heap.size,0) else loc k))
theorem HsNew.ok {o:Oper} {s':St} (h:HsNew P w X loc s a o s'):KQ P w X loc s a o s':=by
 obtain ⟨n,c,w',_,_,h1,h2,_,h3,h4⟩:=h
 exact ⟨n,c,w',_,_,h1,h2,h3,h4⟩
theorem Lk (hs:SR w X loc s a) {o:Oper} {B:Blk} {cells:Array Value} {w':World} {H':List Blk} {id:Nat} {r:AV} {c:Value} (hid:id=s.H.length)
  (hos:w'.os=w.os) (htape:w'.tape=w.tape) (hout:w'.output=w.output) (hheap:w'.heap=w.heap.push (.cells cells B.ty (0,0)))
  (hH:H'[id]?=some B) (hne:∀ k,k≠id→H'[k]?=s.H[k]?) (h1:B.live=true) (h2:B.ver=s.cnt) (h3:B.els.length≤Dl)
  (hel:Real w X (s.hc loc) cells.toList 0 B.esz B.els)
  (hv:VR w' (fun b=>X b∨b=w.heap.size) (some ⟨fun k=>if k=id then some (w.heap.size,0) else loc k,H',s.cnt+1⟩) r c)
  {n:Next} (hrun:(execOp a.eval o).run P w=.ok n w') (hn:n=.value c∨n=.skip∧c=undef):
  HsNew P w X loc s a o (St.put { s with H:=H',cnt:=s.cnt+1 } o.dst r):=by
 subst hid
 obtain ⟨g1,g2⟩:=Aar hs.hr s.H.length B cells H' w' hos htape hout hheap hH hne h1 h2 h3 hel
 refine ⟨n,c,w',cells,B.ty,hrun,hn,⟨hos,htape,hout,hheap⟩,?_,?_⟩
 ·have base:SR w' (fun b=>X b∨b=w.heap.size) (fun k=>if k=s.H.length then some (w.heap.size,0) else loc k) { s with H:=H',cnt:=s.cnt+1 } a:=
   ⟨g1,hs.tm.mono g2 hs.hr,hs.df⟩
  exact base.put o.dst hv
 ·cases hd:o.dst <;> exact g2
theorem Kq (hs:SR w X loc s a) {o:Oper} {B:Blk} {cells:Array Value} {w':World} {H':List Blk} {id:Nat} {r:AV} {c:Value}
  (hos:w'.os=w.os) (htape:w'.tape=w.tape) (hout:w'.output=w.output) (hheap:w'.heap=w.heap.push (.cells cells B.ty (0,0)))
  (hH:H'[id]?=some B) (hne:∀ k,k≠id→H'[k]?=s.H[k]?) (h1:B.live=true) (h2:B.ver=s.cnt) (h3:B.els.length≤Dl)
  (hel:Real w X (s.hc loc) cells.toList 0 B.esz B.els)
  (hv:VR w' (fun b=>X b∨b=w.heap.size) (some ⟨fun k=>if k=id then some (w.heap.size,0) else loc k,H',s.cnt+1⟩) r c)
  {n:Next} (hrun:(execOp a.eval o).run P w=.ok n w') (hn:n=.value c∨n=.skip∧c=undef):
  KQ P w X loc s a o (St.put { s with H:=H',cnt:=s.cnt+1 } o.dst r):=by
 obtain ⟨g1,g2⟩:=Aar hs.hr id B cells H' w' hos htape hout hheap hH hne h1 h2 h3 hel
 refine ⟨n,c,w',(fun b=>X b∨b=w.heap.size),(fun k=>if k=id then some (w.heap.size,0) else loc k),hrun,hn,?_,?_⟩
 ·have base:SR w' (fun b=>X b∨b=w.heap.size) (fun k=>if k=id then some (w.heap.size,0) else loc k) { s with H:=H',cnt:=s.cnt+1 } a:=
   ⟨g1,hs.tm.mono g2 hs.hr,hs.df⟩
  exact base.put o.dst hv
 ·cases hd:o.dst <;> exact g2
theorem Real.single {hc:HC} {v:AV} {c:Value} (hv:VR w X (some hc) v c) (hst:v.stor=true):Real w X hc c.cells.toList 0 v.cells.length [v]:=by
 obtain ⟨g1,g2⟩:=hv.cells_ok hst
 intro i e he
 cases i with
 | zero=>
  simp only [lx45,lx16] at he
  subst he
  refine ⟨rfl,fun j x hx=>?_⟩
  obtain ⟨u,e1,e2⟩:=g1.get hx
  exact ⟨u,by simpa using e1,g2 u (lx25 e1),e2⟩
 | succ i=>simp at he
theorem Ayz {o:Oper} {t:TypeId} {x:Operand} (ho:o.op=.box t x) (hs:SR w X loc s a) {s':St} (h:Aw P s (.box t x) o.dst=some s'):KQ P w X loc s a o s':=by
 simp only [Aw] at h
 split at h
 ·rename_i hst
  cases h
  have hx:=BV hs.tm x
  refine Kq hs (id:=s.H.length) (B:=⟨true,s.cnt,t,(ev s.T x).cells.length,[ev s.T x],false⟩) (cells:=(a.eval x).cells) (w':={ w with heap:=w.heap.push (.cells (a.eval x).cells t) }) (c:=.pointer (some ⟨w.heap.size,0,none⟩))
   rfl rfl rfl rfl (by simp) (fun k hk=>?_) rfl rfl (by simp [Dl]) (.single hx hst) ?_ (n:=.value (.pointer (some ⟨w.heap.size,0,none⟩))) ?_ (.inl rfl)
  ·rw [lx18]
   split
   ·rfl
   ·rename_i h
    exact Aqq
  ·exact Bdk
  ·unfold execOp
   simp only [ho,Sem.run_bind,Aqw,Result.andThen_ok,Sem.run_pure]
 ·cases h
theorem Tn {o:Oper} {t:TypeId} (ho:o.op=.alloc t) (hs:SR w X loc s a) {s':St} (h:Aw P s (.alloc t) o.dst=some s'):HsNew P w X loc s a o s':=by
 simp only [Aw] at h
 split at h
 rotate_left
 ·cases h
 rename_i d htd
 obtain ⟨ti,u,f1,f2,f3,f4,f5,f6,f7,f8,f9⟩:=Bl htd
 split at h
 rotate_left
 ·cases h
 rename_i z hz
 split at h
 ·rename_i hst
  cases h
  have hx:=G6 (w:=w) (X:=X) (o:=some (s.hc loc)) z
  refine Lk hs (id:=s.H.length) (B:=⟨true,s.cnt,t,(Ax z).cells.length,[Ax z],false⟩) (cells:=z.cells) (w':={ w with heap:=w.heap.push (.cells z.cells t) }) (c:=.pointer (some ⟨w.heap.size,0,none⟩))
   rfl rfl rfl rfl rfl (by simp) (fun k hk=>?_) rfl rfl (by simp [Dl]) (.single hx hst) ?_ (n:=.value (.pointer (some ⟨w.heap.size,0,none⟩))) ?_ (.inl rfl)
  ·rw [lx18]
   split
   ·rfl
   ·rename_i h
    exact Aqq
  ·exact Bdk
  ·unfold execOp
   have hzero:rd P (zeroValue t) w=some z:=by rw [EM,f1]; simp [f5,hz]
   simp only [ho,Sem.run_bind,Instr.alloc,EK hzero,Result.andThen_ok,Sem.run_pure,newVar,newRow,run_newObj]
 ·cases h
theorem Ak7 {o:Oper} {t:TypeId} (ho:o.op=.alloc t) (hs:SR w X loc s a) {s':St} (h:Aw P s (.alloc t) o.dst=some s'):KQ P w X loc s a o s':=(Tn ho hs h).ok
end
end Go.SX
