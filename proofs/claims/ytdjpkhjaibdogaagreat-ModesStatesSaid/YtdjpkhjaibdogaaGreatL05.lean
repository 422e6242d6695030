/-
  Joined texts: SX5, SX6.
  Conditions: none.
-/
import Derived.Test.YtdjpkhjaibdogaaGreatL04
import Derived.Laws.Tables
namespace Go.SX
set_option linter.unusedSimpArgs false
set_option linter.unusedVariables false
open Go.RowKit (Below)
theorem setAll_length {α:Type}:∀ (xs:List α) (cs:List α) (off:Nat),(setAll cs off xs).length=cs.length
 | [],_,_=>rfl
 | x::r,cs,off=>by rw [setAll,setAll_length r]; simp
theorem VL.setAll {w X o}:∀ {xs:List AV} {us:List Value} {cs:List AV} {vs:List Value} (off:Nat),VL w X o cs vs→VL w X o xs us→VL w X o (setAll cs off xs) (setAll vs off us)
 | [],us,cs,vs,off,h,k=>by rw [k.unnil]; exact h
 | x::r,us,cs,vs,off,h,k=>by
  obtain ⟨u,us',rfl,k1,k2⟩:=k.uncons
  exact VL.setAll (off+1) (h.set off k1) k2
theorem mem_setAll {α:Type}:∀ {xs cs:List α} {off:Nat} {u:α},u ∈ setAll cs off xs→u ∈ cs∨u ∈ xs
 | [],_,_,_,h=>.inl h
 | x::r,cs,off,u,h=>by
  rcases mem_setAll (xs:=r) h with h | h
  ·rcases List.mem_or_eq_of_mem_set h with h | h
   ·exact .inl h
   ·exact .inr (by rw [h]; exact List.mem_cons_self)
  ·exact .inr (List.mem_cons_of_mem _ h)
theorem foldl_setAll (off:Nat):∀ (us:List Value) (k:Nat) (cs:Array Value),
  ((us.zipIdx k).foldl (fun cs (p:Value × Nat)=>cs.setIfInBounds (off+p.2) p.1) cs).toList=setAll cs.toList (off+k) us
 | [],k,cs=>rfl
 | u::r,k,cs=>by
  simp only [List.zipIdx_cons,List.foldl_cons,setAll]
  rw [foldl_setAll off r (k+1)]
  simp [Nat.add_assoc]
section
variable {P:Program} {w:World} {X:Nat→Prop} {loc:Nat→Option (Nat × Nat)} {s:St} {a:Act} {v:AV}
theorem fill_ok {T:List AV} {o:Option HC} (ht:VL w X o T a.tmps.toList) (place:Nat→Option (Nat × Nat)):∀ (ops:List (Nat × Operand)) {cs cs':List AV} {vs:List Value},
  fillA place cs (ops.map fun p=>(p.1,ev T p.2))=some cs'→VL w X o cs vs→(∀ u ∈ vs,u.oneCell'=true)→
  ∃ vs',Instr.fill place vs.toArray (ops.map fun p=>(p.1,a.eval p.2))=some vs'.toArray∧VL w X o cs' vs'∧(∀ u ∈ vs',u.oneCell'=true)
 | [],cs,cs',vs,h,h1,h2=>by
  simp only [List.map_nil,fillA,Option.some.injEq] at h
  subst h
  exact ⟨vs,rfl,h1,h2⟩
 | (i,x)::r,cs,cs',vs,h,h1,h2=>by
  simp only [List.map_cons,fillA] at h
  split at h
  ·rename_i off size hp
   split at h
   ·rename_i hh
    obtain ⟨c1,c2,c3⟩:=hh
    have hx:=ev_ok ht x
    obtain ⟨g1,g2⟩:=hx.cells_ok c1
    have hlen:=g1.1
    have hsz:(a.eval x).cells.size=size:=by
     rw [←c2,hlen]; simp
    have h1':=h1.setAll off g1
    obtain ⟨vs',e1,e2,e3⟩:=fill_ok ht place r (vs:=setAll vs off (a.eval x).cells.toList) h h1' (fun u hu=>by
     rcases mem_setAll hu with hu | hu
     ·exact h2 u hu
     ·exact g2 u hu)
    refine ⟨vs',?_,e2,e3⟩
    have hvl:=h1.1
    have hf:(a.eval x).cells.zipIdx.foldl (fun cs (p:Value × Nat)=>cs.setIfInBounds (off+p.2) p.1) vs.toArray=(setAll vs off (a.eval x).cells.toList).toArray:=by
     apply Array.ext'
     rw [←Array.foldl_toList,Array.toList_zipIdx]
     have:=foldl_setAll off (a.eval x).cells.toList 0 vs.toArray
     simpa using this
    simp only [List.map_cons,Instr.fill,hp]
    rw [if_neg (by simp [hsz]; omega)]
    rw [←e1]
    congr 1
   ·cases h
  ·cases h
theorem rd_places:∀ (fs:List Field) (places:List (Nat × Nat)),(fs.map fun f=>(f.offset,f.type)).mapM (fun (f:Nat × Nat)=>(tyD P f.2).map fun df=>(f.1,df.sz))=some places→
  rd P (fs.mapM fun f=>do pure (f.offset,←sizeOf f.type)) w=some places
 | [],places,h=>by simp at h; subst h; simp [rd_pure]
 | f::fs,places,h=>by
  simp only [List.map_cons,List.mapM_cons,Option.bind_eq_bind,Option.pure_def] at h
  cases hd:tyD P f.type with
  | none=>simp [hd] at h
  | some d=>
   cases hr:(fs.map fun f=>(f.offset,f.type)).mapM (fun (f:Nat × Nat)=>(tyD P f.2).map fun df=>(f.1,df.sz)) with
   | none=>simp [hd,hr] at h
   | some pl=>
    simp only [hd,hr,Option.map_some,Option.bind_some,Option.some.injEq] at h
    subst h
    have ih:=rd_places fs pl hr
    simp only [List.mapM_cons,rd_bind,rd_sz hd,Option.bind_some,ih,rd_pure]
theorem zero_cells {z:Value} {zs:List AV} (h:ofAgg z=.ag zs):∃ vs:List Value,z=.agg vs.toArray∧VL w X (some (s.hc loc)) zs vs∧∀ u ∈ vs,u.oneCell'=true:=by
 have hz:=ofAgg_ok (w:=w) (X:=X) (o:=some (s.hc loc)) z
 rw [h] at hz
 cases hz with
 | ag hl h1 h2=>exact ⟨_,rfl,⟨hl,h1⟩,h2⟩
theorem rv_build {o:Oper} {t:TypeId} {parts:Array (Nat × Operand)} (ho:o.op=.build t parts) (hs:SR w X loc s a) (h:rval P s (.build t parts)=some v):RdOk P w X (s.hc loc) a o v:=by
 simp only [rval] at h
 split at h
 rotate_left
 ·cases h
 rename_i d htd
 obtain ⟨ti,u,f1,f2,f3,f4,f5,f6,f7,f8,f9⟩:=tyD_facts htd
 split at h
 rotate_left
 ·cases h
 rename_i z hz
 split at h
 rotate_left
 ·cases h
 rename_i zs hzs
 obtain ⟨zv,hzv,hz1,hz2⟩:=zero_cells (w:=w) (X:=X) (s:=s) (loc:=loc) hzs
 have hpm:(parts.map fun (p:Nat × Operand)=>(p.1,a.eval p.2)).toList=parts.toList.map fun p=>(p.1,a.eval p.2):=by simp
 have key:∀ c,rd P (Instr.build t (parts.map fun (p:Nat × Operand)=>(p.1,a.eval p.2))) w=some c→rd P (execOp a.eval o) w=some (.value c):=by
  intro c hc
  unfold execOp
  simp only [ho]
  exact rdv hc
 have hzero:rd P (zeroValue t) w=some z:=by rw [rd_zeroValue,f1]; simp [f5,hz]
 split at h
 ·rename_i m el hlen hel
  have hu:=f8 el m hel hlen
  subst hu
  split at h
  rotate_left
  ·cases h
  rename_i de hde
  split at h
  ·rename_i cs hcs
   cases h
   obtain ⟨vs',e1,e2,e3⟩:=fill_ok hs.tm _ parts.toList hcs hz1 hz2
   refine ⟨.agg vs'.toArray,key _ ?_,.ag e2.1 e2.2 e3⟩
   unfold Instr.build
   simp only [rd_bind,hzero,Option.bind_some,rd_underlying,f2,rd_sz hde,hpm,hzv,Value.cells,e1,rd_pure]
  ·cases h
 ·rename_i hlen hel
  split at h
  ·rename_i hag
   obtain ⟨fs,hu,hfl⟩:=f9 hlen hel hag
   subst hu
   split at h
   rotate_left
   ·cases h
   rename_i places hpl
   split at h
   ·rename_i cs hcs
    cases h
    rw [hfl] at hpl
    have hp:=rd_places (w:=w) _ _ hpl
    obtain ⟨vs',e1,e2,e3⟩:=fill_ok hs.tm _ parts.toList hcs hz1 hz2
    refine ⟨.agg vs'.toArray,key _ ?_,.ag e2.1 e2.2 e3⟩
    unfold Instr.build
    have hmm:rd P (fs.mapM fun f=>do pure (f.offset,←sizeOf f.type)) w=some places.toArray:=by
     rw [Array.mapM_eq_mapM_toList,rd_map,hp]; rfl
    have e1':Instr.fill (fun x=>places.toArray[x]?) zv.toArray (parts.toList.map fun p=>(p.1,a.eval p.2))=some vs'.toArray:=by
     simpa using e1
    simp only [rd_bind,hzero,Option.bind_some,rd_underlying,f2,hmm,hpm,hzv,Value.cells,e1',rd_pure]
   ·cases h
  ·cases h
 ·cases h
theorem rv_minmax {o:Oper} {b:Builtin} (hb:b=.min∨b=.max) {args:Array Operand} {ats:Array TypeId} (ho:o.op=.call { callee:=.builtin b,args:=args,argTypes:=ats }) (hs:SR w X loc s a)
  (h:rval P s (.call { callee:=.builtin b,args:=args,argTypes:=ats })=some v):RdOk P w X (s.hc loc) a o v:=by
 have hx:=evs_ok hs.tm args.toList
 have harg:∀ l,concs (args.toList.map (ev s.T))=some l→args.map a.eval=l.toArray:=by
  intro l hl
  have:=concs_eq _ hl hx
  apply Array.ext'
  rw [←this]; simp
 rcases hb with rfl | rfl
 all_goals
  simp only [rval] at h
  split at h
  ·rename_i l hl
   split at h
   ·rename_i r hr
    cases h
    refine ⟨r,?_,ofV_ok r⟩
    unfold execOp
    simp only [ho,resolve,invoke,builtin,rd_bind,rd_pure,Option.bind_some,harg l hl]
    have:=spure_rd hr w
    first | rw [show Builtin.min_ ats o.type l.toArray=Builtin.min_ ats 0 l.toArray from rfl,this] | rw [show Builtin.max_ ats o.type l.toArray=Builtin.max_ ats 0 l.toArray from rfl,this]
    rfl
   ·cases h
  ·cases h
theorem rval_ok {o:Oper} (hs:SR w X loc s a) (h:rval P s o.op=some v):RdOk P w X (s.hc loc) a o v:=by
 cases ho:o.op with
 | move x=>rw [ho] at h; simp only [rval,Option.some.injEq] at h; rw [←h]; exact rv_move (.inl ho) hs
 | assign x=>rw [ho] at h; simp only [rval,Option.some.injEq] at h; rw [←h]; exact rv_move (.inr ho) hs
 | pick c x y=>rw [ho] at h; exact rv_pick ho hs h
 | build t parts=>rw [ho] at h; exact rv_build ho hs h
 | load t x=>rw [ho] at h; exact rv_load ho hs h
 | nilCheck x=>rw [ho] at h; exact rv_nilCheck ho hs h
 | binOp op t x y t'=>rw [ho] at h; exact rv_binOp ho hs h
 | unOp op t x=>rw [ho] at h; exact rv_unOp ho hs h
 | convert t t' x=>rw [ho] at h; exact rv_convert ho hs h
 | makeFunc fn first caps=>
  rw [ho] at h
  cases fn with
  | func f=>exact rv_makeFunc ho hs h
  | _=>simp [rval] at h
 | slice t x lo hi mx=>rw [ho] at h; exact rv_slice ho hs h
 | fieldAddr t x f=>rw [ho] at h; exact rv_fieldAddr ho hs h
 | field t x f=>rw [ho] at h; exact rv_field ho hs h
 | indexAddr t x i=>rw [ho] at h; exact rv_indexAddr ho hs h
 | index t x i=>rw [ho] at h; exact rv_index ho hs h
 | extract x i=>rw [ho] at h; exact rv_extract ho hs h
 | call c=>
  rw [ho] at h
  obtain ⟨callee,args,ats⟩:=c
  cases callee with
  | builtin b=>
   cases b with
   | len=>exact rv_len ho hs h
   | min=>exact rv_minmax (.inl rfl) ho hs h
   | max=>exact rv_minmax (.inr rfl) ho hs h
   | _=>simp [rval] at h
  | value f=>simp [rval] at h
  | invoke r m=>simp [rval] at h
 | _=>rw [ho] at h; simp [rval] at h
end
end Go.SX

namespace Go.SX
set_option linter.unusedSimpArgs false
set_option linter.unusedVariables false
open Go.RowKit (Below)
def hc0:HC:=⟨fun _=>none,[],0⟩
def noX:Nat→Prop:=fun _=>False
def Callable (P:Program) (f:FuncId):Prop:=∃ fn,P.funcs[f]?=some fn∧(fn.name == "runtime.NumGoroutine")=false∧fn.body.isNone=false
def PSpec (P:Program) (f:FuncId) (args:List AV) (r:AV):Prop:=
 Callable P f∧∃ c,(∀ w X o,VR w X o r c)∧∀ (w:World) (cargs:Array Value),VL w noX (some hc0) args cargs.toList→Calls P f cargs w fun e w'=>e=.returned c∧Below w.heap.size w w'
def HSpec (P:Program) (f:FuncId) (args:List AV) (H:List Blk) (cnt:Nat) (r:AV) (H':List Blk) (cnt':Nat):Prop:=
 Callable P f∧∀ (w:World) (X:Nat→Prop) (loc:Nat→Option (Nat × Nat)) (cargs:Array Value),HR w X ⟨loc,H,cnt⟩→VL w X (some ⟨loc,H,cnt⟩) args cargs.toList→
  Calls P f cargs w fun e w'=>∃ X' loc' c,e=.returned c∧HR w' X' ⟨loc',H',cnt'⟩∧VR w' X' (some ⟨loc',H',cnt'⟩) r c∧Evo w X ⟨loc,H,cnt⟩ w' X' ⟨loc',H',cnt'⟩
structure EnvOk (P:Program) (E:Env):Prop where
 p:∀ f args r,E.pcall f args=some r→PSpec P f args r
 h:∀ f args H cnt r H' cnt',E.hcall f args H cnt=some (r,H',cnt')→HSpec P f args H cnt r H' cnt'
theorem below_cell {w w':World} (h:Below w.heap.size w w') {a:Addr} {v:Value} (hc:w.cell? a=some v):w'.cell? a=some v:=by
 rw [h.cell (World.block_lt_of_cell? w a hc),hc]
theorem evo_below {w w':World} (h:Below w.heap.size w w') (X:Nat→Prop) (hc:HC):Evo w X hc w' X hc where
 os:=h.os
 tape:=h.tape
 output:=h.output
 size:=h.size
 keep b hb _:=h.block b hb
 shape b s hs:=by
  have hb:b < w.heap.size:=by
   unfold World.shape? at hs
   split at hs
   ·rename_i c e fr hh; exact (Array.getElem?_eq_some_iff.1 hh).1
   ·cases hs
  unfold World.shape? at *
  rw [h.block b hb]
  exact hs
 xs _ _:=Iff.rfl
 cnt:=Nat.le_refl _
 old _ B' h1 h2 _:=⟨B',h1,h2,rfl,rfl,rfl,rfl,rfl⟩
 fresh _ B' _ o h1 h2 h3 _:=⟨B',o,h1,h2,h3⟩
theorem HR.below {w w':World} {X hc} (h:Below w.heap.size w w') (hr:HR w X hc):HR w' X hc where
 blk id B h1 h2:=by
  obtain ⟨g1,g2,g3⟩:=hr.blk id B h1 h2
  refine ⟨g1,g2,?_⟩
  split at g3
  ·exact g3
  ·rename_i b base hloc
   obtain ⟨k1,⟨cs,k2⟩,k3⟩:=g3
   refine ⟨k1,⟨cs,by rw [h.block b (hr.lt b k1)]; exact k2⟩,fun i e he=>?_⟩
   obtain ⟨q1,q2⟩:=k3 i e he
   refine ⟨q1,fun j a ha=>?_⟩
   obtain ⟨c,e1,e2,e3⟩:=q2 j a ha
   exact ⟨c,below_cell h e1,e2,e3.mono (evo_below h X hc) hr⟩
 inj:=hr.inj
 lt b hb:=Nat.lt_of_lt_of_le (hr.lt b hb) h.size
theorem VL.mono {w X hc w' X' hc' as vs} (h:Evo w X hc w' X' hc') (hr:HR w X hc) (hv:VL w X (some hc) as vs):VL w' X' (some hc') as vs:=
 ⟨hv.1,fun i a v h1 h2=>(hv.2 i a v h1 h2).mono h hr⟩
theorem SR.below {w w' X loc s a} (h:Below w.heap.size w w') (hs:SR w X loc s a):SR w' X loc s a:=
 ⟨hs.hr.below h,hs.tm.mono (evo_below h X _) hs.hr,hs.df⟩
theorem hr0 (w:World):HR w noX hc0 where
 blk id B h1 _:=by simp [hc0] at h1
 inj id id' B B' b o o' h1:=by simp [hc0] at h1
 lt b hb:=hb.elim
mutual
theorem borrow_ok {w X hc} (hr:HR w X hc):∀ (a:AV) {v:Value},VR w X (some hc) a v→VR w noX (some hc0) (borrow hc.H a) v
 | .sc x,v,h=>by cases h with | sc h=>exact .sc h
 | .un,v,h=>by cases h; exact .un
 | .jk,v,_=>.jk
 | .vw z es,v,h=>by
  cases h with
  | vw0 hz hm=>exact .vw0 hz hm
  | vw1 f hne hX hb hcap hz hmax hsz hcl hv=>exact .vw1 f hne (fun h=>h.elim) hb hcap hz hmax hsz hcl (fun i e j a h1 h2=>(hv i e j a h1 h2).antiX (fun _ h=>h.elim))
 | .vp es i off,v,h=>by
  cases h with
  | vp f hX hb hsz hcl hv=>exact .vp f (fun h=>h.elim) hb hsz hcl (fun i e j a h1 h2=>(hv i e j a h1 h2).antiX (fun _ h=>h.elim))
 | .ag cs,v,h=>by
  cases h with
  | ag hl h1 h2=>
   have:=borrows_ok hr cs ⟨hl,h1⟩
   exact .ag this.1 this.2 h2
 | .tu cs,v,h=>by
  cases h with
  | tu hl h1=>
   have:=borrows_ok hr cs ⟨hl,h1⟩
   exact .tu this.1 this.2
 | .fn f cs,v,h=>by
  cases h with
  | fn hl h1=>
   have:=borrows_ok hr cs ⟨hl,h1⟩
   exact .fn this.1 this.2
 | .pt id ver i off,v,h=>by
  simp only [borrow]
  split
  ·rename_i B hl
   obtain ⟨b,base,h1,h2,h3,⟨cs,h4⟩,h5⟩:=pt_live hr h hl
   subst h2
   refine .vp (fun i j=>(w.cell? ⟨b,base+i * B.esz+j,none⟩).getD undef) (fun h=>h.elim) (hr.lt b h3) ?_ ?_ ?_
   ·intro e he
    obtain ⟨i,hi⟩:=List.mem_iff_getElem?.1 he
    exact (h5 i e hi).1
   ·intro i j hi hj
    obtain ⟨q1,q2⟩:=h5 i B.els[i] (by simp [hi])
    obtain ⟨c,e1,e2,e3⟩:=q2 j (B.els[i].cells[j]'(by omega)) (by simp)
    rw [e1]
    exact ⟨rfl,e2⟩
   ·intro i e j a he ha
    obtain ⟨q1,q2⟩:=h5 i e he
    obtain ⟨c,e1,e2,e3⟩:=q2 j a ha
    rw [e1]
    exact e3.close.antiX (fun _ h=>h.elim)
  ·exact .jk
 | .sl id ver lo len,v,h=>by
  simp only [borrow]
  split
  ·rename_i B hl
   obtain ⟨g1,g2,g3⟩:=liveB_some hl
   cases h with
   | sl q1 q2=>
    obtain ⟨r1,r2⟩:=q2 _ rfl
    obtain ⟨r3,r4⟩:=r2 B g1 g2 g3
    have hlen:((B.els.drop lo).take len).length=len:=by simp; omega
    have hB:=hr.blk id B g1 g2
    rcases r4 with ⟨r4,p,hp⟩ | ⟨b,base,cap,nn,hloc,k1,k2,k3,k4,k5⟩
    ·subst r4; subst hp
     rw [List.take_zero]
     exact .vw0 (fun h=>by cases h) (Nat.zero_le _)
    ·have hB2:=hB.2.2
     rw [hloc] at hB2
     obtain ⟨m1,⟨cs,m2⟩,m3⟩:=hB2
     subst k1
     by_cases h0:len=0
     ·subst h0
      rw [List.take_zero]
      exact .vw0 (fun h=>by cases h) k3
     ·have hne:(B.els.drop lo).take len≠[]:=by intro e; rw [e] at hlen; simp at hlen; omega
      have hget:∀ i e,((B.els.drop lo).take len)[i]?=some e→B.els[lo+i]?=some e:=by
       intro i e he
       rw [List.getElem?_take] at he
       split at he
       ·rwa [List.getElem?_drop] at he
       ·cases he
      have:=VR.vw1 (w:=w) (X:=noX) (o:=some hc0) (z:=false) (es:=(B.els.drop lo).take len) (b:=b) (base:=base+lo * B.esz) (cap:=cap) (esz:=B.esz)
       (fun i j=>(w.cell? ⟨b,base+lo * B.esz+i * B.esz+j,none⟩).getD undef) hne (fun h=>h.elim) (hr.lt b m1) (by rw [hlen]; exact k2) (fun h=>by cases h) k3
       (fun e he=>by
        obtain ⟨i,hi⟩:=List.mem_iff_getElem?.1 he
        exact (m3 _ e (hget i e hi)).1)
       (fun i j hi hj=>by
        have he:((B.els.drop lo).take len)[i]?=some ((B.els.drop lo).take len)[i]:=List.getElem?_eq_getElem hi
        obtain ⟨q1,q2⟩:=m3 _ _ (hget i _ he)
        obtain ⟨c,e1,e2,e3⟩:=q2 j (((B.els.drop lo).take len)[i].cells[j]'(by omega)) (by simp)
        rw [Nat.add_mul,←Nat.add_assoc] at e1
        rw [e1]
        exact ⟨rfl,e2⟩)
       (fun i e j a he ha=>by
        obtain ⟨q1,q2⟩:=m3 _ e (hget i e he)
        obtain ⟨c,e1,e2,e3⟩:=q2 j a ha
        rw [Nat.add_mul,←Nat.add_assoc] at e1
        rw [e1]
        exact e3.close.antiX (fun _ h=>h.elim))
      rw [hlen] at this
      exact this
  ·exact .jk
theorem borrows_ok {w X hc} (hr:HR w X hc):∀ (as:List AV) {vs:List Value},VL w X (some hc) as vs→VL w noX (some hc0) (borrows hc.H as) vs
 | [],vs,h=>by rw [h.unnil]; exact .nil
 | a::r,vs,h=>by
  obtain ⟨v,vs',rfl,h1,h2⟩:=h.uncons
  exact .cons (borrow_ok hr a h1) (borrows_ok hr r h2)
end
theorem borrows_map (H:List Blk):∀ l:List AV,borrows H l=l.map (borrow H)
 | []=>rfl
 | a::r=>by rw [borrows,borrows_map H r]; rfl
section
variable {P:Program} {E:Env} {w:World} {X:Nat→Prop} {loc:Nat→Option (Nat × Nat)} {s:St} {a:Act} {v:AV}
theorem rd_callFunc {f:FuncId} (h:Callable P f) (args:Array Value):rd P (callFunc f args) w=some (.enter f args):=by
 obtain ⟨fn,h1,h2,h3⟩:=h
 unfold callFunc
 simp only [rd_bind,rd_program,Option.bind_some,h1,h2,h3,Bool.false_eq_true,if_false,rd_pure]
theorem call_rd (hs:SR w X loc s a) {o:Oper} {g:Nat} {args:List AV} (ht:target s o.op=some (g,args)) (hc:Callable P g):
  ∃ cargs:Array Value,rd P (execOp a.eval o) w=some (.enter g cargs)∧VL w X (some (s.hc loc)) args cargs.toList:=by
 unfold target at ht
 split at ht
 ·rename_i f as ats ho
  have hf:=ev_ok hs.tm f
  split at ht
  ·rename_i g' caps hev
   cases ht
   rw [hev] at hf
   generalize hq:a.eval f=c0 at hf
   cases hf with
   | @fn _ _ _ vs hl h1=>
    refine ⟨as.map a.eval++vs.toArray,?_,?_⟩
    ·unfold execOp
     simp only [ho,resolve,hq,Deferred.ofValue,rd_bind,rd_pure,Option.bind_some,invoke,Array.empty_append,rd_callFunc hc]
    ·have:=(evs_ok hs.tm as.toList).append ⟨hl,h1⟩
     simpa using this
  ·cases ht
 ·cases ht
theorem pval_ok (hE:EnvOk P E) (hs:SR w X loc s a) {o:Oper} (h:pval P E s o.op=some v):
  ∃ c,VR w X (some (s.hc loc)) v c∧∀ w',Below w.heap.size w w'→o.quietAt P a (Below w.heap.size w) w' c:=by
 unfold pval at h
 split at h
 ·split at h
  ·rename_i g args ht
   obtain ⟨hc,c,h1,h2⟩:=hE.p _ _ _ h
   obtain ⟨cargs,e1,e2⟩:=call_rd hs ht hc
   refine ⟨c,h1 _ _ _,fun w' hb=>?_⟩
   have hrun:=rd_run (rd_keep (fun a v h=>below_cell hb h) e1)
   unfold Oper.quietAt
   rw [hrun]
   refine ⟨rfl,?_⟩
   have hb0:=borrows_ok hs.hr args e2
   have hb1:VL w' noX (some hc0) (args.map (borrow s.H)) cargs.toList:=by
    rw [←borrows_map]
    exact hb0.mono (evo_below hb noX hc0) (hr0 w)
   exact (h2 w' cargs hb1).mono fun e w'' ⟨he,hw⟩=>⟨he,hb.trans (hw.mono hb.size)⟩
  ·cases h
 ·obtain ⟨c,e1,e2⟩:=rval_ok hs h
  refine ⟨c,e2,fun w' hb=>?_⟩
  have hrun:=rd_run (rd_keep (fun a v h=>below_cell hb h) e1)
  unfold Oper.quietAt
  rw [hrun]
  exact ⟨rfl,rfl⟩
theorem guard_ok (hs:SR w X loc s a) (all:Array Oper) (j:Nat):VR w X (some (s.hc loc)) (guardV all s j) (((((all[j]?).bind (·.dst)).bind (a.tmps[·]?))).getD undef):=by
 unfold guardV
 cases h:(all[j]?).bind (·.dst) with
 | none=>exact .un
 | some d=>
  have:=ev_ok hs.tm (.tmp d)
  simpa [ev,Act.eval] using this
theorem yielded_bool (hs:SR w X loc s a) {all:Array Oper} {j:Nat} {b:Bool} (h:guardV all s j=.sc (.bool b)):yielded all a.tmps j=some b:=by
 have:=guard_ok hs all j
 rw [h] at this
 unfold yielded
 generalize ((all[j]?).bind (·.dst)).bind (a.tmps[·]?)=q at *
 cases q with
 | none=>cases this
 | some x=>
  simp only [Option.getD_some] at this
  cases this
  rfl
theorem yielded_un (hs:SR w X loc s a) {all:Array Oper} {j:Nat} (h:guardV all s j=.un):yielded all a.tmps j=none:=by
 have:=guard_ok hs all j
 rw [h] at this
 unfold yielded
 generalize ((all[j]?).bind (·.dst)).bind (a.tmps[·]?)=q at *
 cases q with
 | none=>rfl
 | some x=>
  simp only [Option.getD_some] at this
  cases this
  rfl
theorem opPure_ok (hE:EnvOk P E) (hs:SR w X loc s a) {all:Array Oper} {o:Oper} {s':St} (hp:isPure E s o.op=true) (h:opStep P E all s o=some s'):
  ∃ v c,s'=s.put o.dst v∧VR w X (some (s.hc loc)) v c∧
   if Region.wanted o (yielded all a.tmps)=true then ∀ w',Below w.heap.size w w'→o.quietAt P a (Below w.heap.size w) w' c else c=undef:=by
 unfold opStep at h
 unfold Region.wanted
 split at h
 ·rename_i hg
  rw [hg]
  simp only [hp,if_true,Option.map_eq_some_iff] at h
  obtain ⟨v,hv,rfl⟩:=h
  obtain ⟨c,h1,h2⟩:=pval_ok hE hs hv
  exact ⟨v,c,rfl,h1,by simpa using h2⟩
 ·rename_i j want hg
  rw [hg]
  split at h
  ·rename_i b hgv
   simp only [yielded_bool hs hgv]
   simp only [hp,if_true,Option.map_eq_some_iff] at h
   obtain ⟨v,hv,rfl⟩:=h
   split at hv
   ·rename_i hbw
    subst hbw
    obtain ⟨c,h1,h2⟩:=pval_ok hE hs hv
    exact ⟨v,c,rfl,h1,by simpa using h2⟩
   ·rename_i hbw
    simp only [Option.some.injEq] at hv
    subst hv
    refine ⟨.un,undef,rfl,.un,?_⟩
    simp [hbw]
  ·rename_i hgv
   simp only [yielded_un hs hgv]
   cases h
   exact ⟨.un,undef,rfl,.un,by simp⟩
  ·cases h
theorem runPure_ok (hE:EnvOk P E) {all:Array Oper}:∀ (l:List Oper) {s s':St} {a:Act},runPure P E all l s=some s'→SR w X loc s a→
  wpQuiet P all (Below w.heap.size w) (fun a'=>SR w X loc s' a') l a
 | [],s,s',a,h,hs=>by simp only [runPure,Option.some.injEq] at h; subst h; exact hs
 | o::r,s,s',a,h,hs=>by
  simp only [runPure] at h
  split at h
  ·rename_i hp
   split at h
   ·rename_i s1 h1
    obtain ⟨v,c,rfl,h2,h3⟩:=opPure_ok hE hs hp h1
    have ih:=runPure_ok hE r h (hs.put o.dst h2)
    simp only [wpQuiet]
    split
    ·rename_i hw
     simp only [hw,if_true] at h3
     exact ⟨c,h3,ih⟩
    ·rename_i hw
     simp only [hw] at h3
     rw [if_neg (by simp)] at h3
     subst h3
     exact ih
   ·cases h
  ·cases h
theorem region_draw_ok (hE:EnvOk P E) (hm:P.follows .mixedOrders=true) {id:Nat} {ops:Array Oper} (hB:Region.lexB .any ops=true) {s s':St} {a:Act}
  (h:runPure P E ops ops.toList s=some s') (hs:SR w X loc s a) {Q:Exit→Act→World→Prop} (hQ:∀ a' w',SR w' X loc s' a'→Below w.heap.size w w'→Q .normal a' w'):
  (Code.region id ops true).wp P Q a w:=by
 refine wp_region_quiet (C:=Below w.heap.size w) hm hB ⟨rfl,rfl,rfl,Nat.le_refl _,fun _ _=>rfl⟩ ?_
 have h1:=runPure_ok hE ops.toList h hs
 have mono:∀ (l:List Oper) (a:Act),wpQuiet P ops (Below w.heap.size w) (fun a'=>SR w X loc s' a') l a→wpQuiet P ops (Below w.heap.size w) (fun a'=>∀ w',Below w.heap.size w w'→Q .normal a' w') l a:=by
  intro l
  induction l with
  | nil=>exact fun a h w' hw=>hQ a w' (SR.below hw h) hw
  | cons o r ih=>
   intro a h
   simp only [wpQuiet] at h ⊢
   split
   ·rename_i hw
    simp only [hw,if_true] at h
    exact Oper.quiet_mono ih h
   ·rename_i hw
    simp only [hw] at h
    exact ih _ h
 exact mono _ _ h1
end
end Go.SX
