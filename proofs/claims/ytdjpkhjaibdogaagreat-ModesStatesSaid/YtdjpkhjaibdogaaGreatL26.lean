/-
  Joined texts: SYK.
  Conditions: none.
-/
import Derived.Test.YtdjpkhjaibdogaaGreatL22
import Derived.Laws.BytesString
import Derived.Laws.Cells
namespace Go.SX
set_option linter.unusedVariables false
open Go.RowKit (Below)
def litOn (E:Env):Env:={ E with lit:=true }
theorem litOn_ok {P:Program} {E:Env} (h:EnvOk P E):EnvOk P (litOn E):=⟨h.p,h.h⟩
def strOf (ns:List Int):ByteArray:=ns.foldl (fun r n=>r.push (UInt8.ofNat n.toNat)) ByteArray.empty
theorem conv_ok {P:Program} {w:World} {X:Nat→Prop} {loc:Nat→Option (Nat × Nat)} {s:St} {a:Act} (hs:SR w X loc s a) {all:Array Oper} {o:Oper} {src dst:TypeId} {x:Operand} (ho:o.op=.convert src dst x) (hg:o.guard=none) {e:TypeId}
  (h1:P.underlying src=some (.slice e)) (h2:P.underlying e=some (.int .u8)) (h3:P.underlying dst=some .string) {z:Bool} {ns:List Int} (hne:ns≠[]) (hx:ev s.T x=.vw z (ns.map fun n=>.sc (.int .u8 n))):
  StepsTo P w X loc s a all o (s.put o.dst (.sc (.string (strOf ns)))):=by
 intro K Q hK
 have hw:Region.wanted o (yielded all a.tmps)=true:=by unfold Region.wanted; rw [hg]
 rw [if_pos hw]
 have hv:=ev_ok hs.tm x
 rw [hx] at hv
 generalize hq:a.eval x=c at hv
 generalize hes:(ns.map fun n=>AV.sc (.int .u8 n))=es at hv
 have key:∃ b base cap,c=.slice (some ⟨b,base,none⟩) ns.length cap∧(loadCells ⟨b,base,none⟩ ns.length).run P w=.ok (ns.map (Value.int .u8)).toArray w:=by
  have hne':es≠[]:=by rw [←hes]; simpa using hne
  cases hv with
  | vw0=>exact absurd rfl hne'
  | @vw1 _ _ _ b base cap esz f hne hX hb hcap hz hmax hsz hc hcv=>
   have hl:es.length=ns.length:=by rw [←hes,List.length_map]
   have he1:esz=1:=by
    cases es with
    | nil=>exact absurd rfl hne'
    | cons e0 r=>
     have:=hsz e0 List.mem_cons_self
     have hm:e0 ∈ ns.map fun n=>AV.sc (.int .u8 n):=by rw [hes]; exact List.mem_cons_self
     obtain ⟨n,_,rfl⟩:=List.mem_map.1 hm
     simpa [AV.cells] using this.symm
   subst he1
   refine ⟨b,base,cap,by rw [hl],?_⟩
   have hf:∀ j,j < ns.length→f j 0=.int .u8 (ns.getD j 0):=fun j hj=>by
    have hget:es[j]?=some (.sc (.int .u8 (ns.getD j 0))):=by
     rw [←hes,List.getElem?_map,List.getD_eq_getElem?_getD,List.getElem?_eq_getElem hj]; rfl
    have:=hcv j _ 0 (.sc (.int .u8 (ns.getD j 0))) hget rfl
    generalize hfj:f j 0=u at this
    cases this with
    | sc h=>rfl
   have hr:=run_loadCellsFrom (P:=P) (w:=w) ⟨b,base,none⟩ (fun j=>f j 0) ns.length 0 #[] (fun j hj=>by
    have:=(hc j 0 (by omega) (by omega)).1
    rw [Nat.zero_add]
    have ha:(⟨b,base,none⟩:Addr).add j=⟨b,base+j,none⟩:=by unfold Addr.add; split <;> simp_all
    rw [ha]
    simpa using this)
   unfold loadCells
   rw [hr]
   congr 1
   apply Array.toList_inj.1
   apply List.ext_getElem
   ·simp
   ·intro i hi1 hi2
    simp only [List.append_toArray,List.nil_append,List.length_map,List.length_range] at hi1
    have hi':i < ns.length:=by simpa using hi1
    have:=hf i hi'
    rw [List.getD_eq_getElem?_getD,List.getElem?_eq_getElem hi'] at this
    simpa using this
 obtain ⟨b,base,cap,rfl,hl⟩:=key
 have hrun:(execOp a.eval o).run P w=.ok (.value (.string (strOf ns))) w:=by
  unfold execOp
  simp only [ho,hq,Sem.run_bind,run_convert_bytes_string w src dst e _ _ _ h1 h2 h3,run_bytesToString w _ _ cap ns hl,Result.andThen_ok,Sem.run_pure]
  rfl
 unfold Oper.wp
 rw [hrun]
 exact hK _ w X loc (hs.put o.dst (.sc rfl)) (by rw [put_hc]; exact Evo.refl _ _ _)
def StepR (P:Program) (E:Env) (ops:Array Oper) (s:St) (o:Oper) (s':St):Prop:=
 opStepM P E ops s o=some s'∨∃ src dst x e z ns,o.op=.convert src dst x∧o.guard=none∧P.underlying src=some (.slice e)∧P.underlying e=some (.int .u8)∧P.underlying dst=some .string∧ns≠[]∧
  ev s.T x=.vw z (ns.map fun n=>.sc (.int .u8 n))∧s'=s.put o.dst (.sc (.string (strOf ns)))
theorem stepR_ok {P:Program} {E:Env} (hE:EnvOk P E) {w:World} {X:Nat→Prop} {loc:Nat→Option (Nat × Nat)} {s:St} {a:Act} (hs:SR w X loc s a) {all:Array Oper} {o:Oper} {s':St} (h:StepR P E all s o s'):StepsTo P w X loc s a all o s':=by
 rcases h with h | ⟨src,dst,x,e,z,ns,h1,h2,h3,h4,h5,h6,h7,rfl⟩
 ·exact opStepM_ok hE hs h
 ·exact conv_ok hs h1 h2 h3 h4 h5 h6 h7
structure TreeI (P:Program) (E:Env) (ops:Array Oper) (Q:St→Prop) (I:Array Bool→St→Prop):Prop where
 nil:∀ l s,I l s→(∀ k,k < ops.size→l.getD k false=true)→Q s
 step:∀ l s,I l s→l.size=ops.size→ClosedL ops (fun j=>l.getD j false)→∀ i o,ops[i]?=some o→l.getD i false=false→(∀ e ∈ o.after,Region.binds .any e=true→l.getD e.on false=true)→
  ∃ s',StepR P E ops s o s'∧I (l.setIfInBounds i true) s'
section
variable {P:Program} {E:Env} {ops:Array Oper} {Q:St→Prop} {I:Array Bool→St→Prop}
theorem openN_zero {l:Array Bool} (h:openN l ops.size=0):Region.ready .any ops l=[]:=by
 cases hr:Region.ready .any ops l with
 | nil=>rfl
 | cons i r=>
  exfalso
  obtain ⟨o,ho,h1,h2⟩:=ready_spec (ops:=ops) (listed:=l) (i:=i) (by rw [hr]; exact List.mem_cons_self)
  have:i ∈ (List.range ops.size).filter fun i=>!l.getD i true:=by
   simp only [List.mem_filter,List.mem_range]
   exact ⟨(Array.getElem?_eq_some_iff.1 ho).1,by rw [h1]; rfl⟩
  have:=List.length_pos_of_mem this
  unfold openN at h
  omega
theorem getD_setB {l:Array Bool} {i:Nat} {d:Bool} (hi:i < l.size) (j:Nat):(l.setIfInBounds i true).getD j d=if i=j then true else l.getD j d:=by
 rw [Array.getD_eq_getD_getElem?,Array.getD_eq_getD_getElem?]
 split
 ·rename_i h; subst h; rw [Array.getElem?_setIfInBounds_self_of_lt hi]; rfl
 ·rename_i h; rw [Array.getElem?_setIfInBounds_ne h]
theorem openN_set {l:Array Bool} {i:Nat} {o:Oper} (hs:l.size=ops.size) (ho:ops[i]?=some o) (h:l.getD i true=false):openN (l.setIfInBounds i true) ops.size < openN l ops.size:=by
 have hi:=(Array.getElem?_eq_some_iff.1 ho).1
 unfold openN
 refine filter_lt _ (fun x hx hq=>?_) ⟨i,List.mem_range.2 hi,by rw [h]; rfl,?_⟩
 ·by_cases hxi:i=x
  ·subst hxi; rw [h]; rfl
  ·rw [getD_setB (by omega),if_neg hxi] at hq; exact hq
 ·rw [getD_setB (by omega),if_pos rfl]; rfl
def edgB (ops:Array Oper):Bool:=(List.range ops.size).all fun k=>match ops[k]? with | some o=>o.after.toList.all fun e=>decide (e.on < k) | none=>true
theorem tree_done (hB:edgB ops=true) {l:Array Bool} (hsz:l.size=ops.size) (hn:Region.ready .any ops l=[]):∀ k,k < ops.size→l.getD k false=true:=by
 intro k
 induction k using Nat.strongRecOn with
 | _ k ih=>
  intro hk
  cases hq:l.getD k false with
  | true=>rfl
  | false=>
   have ho:ops[k]?=some ops[k]:=by simp [hk]
   have hb:=List.all_eq_true.1 hB k (List.mem_range.2 hk)
   rw [ho] at hb
   have hb':∀ e ∈ (ops[k]).after,e.on < k:=fun e he=>by
    have:=List.all_eq_true.1 hb e (by simpa using he)
    simpa using this
   have:=ready_of (listed:=l) ho (by rw [getD_tf (by omega)]; exact hq) (fun e he _=>ih e.on (hb' e he) (by have:=hb' e he; omega))
   rw [hn] at this; cases this
theorem closed_set {l:Array Bool} {i:Nat} {o:Oper} (hs:l.size=ops.size) (ho:ops[i]?=some o) (hd:∀ e ∈ o.after,Region.binds .any e=true→l.getD e.on false=true) (hc:ClosedL ops (fun j=>l.getD j false)):
  ClosedL ops (fun j=>(l.setIfInBounds i true).getD j false):=by
 have hi:=(Array.getElem?_eq_some_iff.1 ho).1
 intro j oj hj hl e he hb
 simp only [getD_setB (l:=l) (i:=i) (by omega)] at hl ⊢
 split
 ·rfl
 ·split at hl
  ·rename_i hij
   subst hij
   rw [ho] at hj
   cases hj
   exact hd e he hb
  ·exact hc j oj hj hl e he hb
theorem tree_any (hE:EnvOk P E) (hB:edgB ops=true) (hI:TreeI P E ops Q I) {w0:World} {X0:Nat→Prop} {hc0:HC}:∀ (fuel:Nat) (l:Array Bool) (s:St) (a:Act) (w:World) (X:Nat→Prop) (loc:Nat→Option (Nat × Nat)),
  I l s→l.size=ops.size→ClosedL ops (fun j=>l.getD j false)→openN l ops.size≤fuel→SR w X loc s a→Evo w0 X0 hc0 w X (s.hc loc)→
  wpAny P .any ops (fun e a' w'=>e=.normal∧∃ s' X' loc',Q s'∧SR w' X' loc' s' a'∧Evo w0 X0 hc0 w' X' (s'.hc loc')) fuel l a w:=by
 intro fuel
 induction fuel with
 | zero=>
  intro l s a w X loc hi hsz hcl hf hs hev
  have hn:=openN_zero (ops:=ops) (l:=l) (by omega)
  exact ⟨hn,rfl,s,X,loc,hI.nil l s hi (tree_done hB hsz hn),hs,hev⟩
 | succ fuel ih=>
  intro l s a w X loc hi hsz hcl hf hs hev
  refine ⟨fun hn=>⟨rfl,s,X,loc,hI.nil l s hi (tree_done hB hsz hn),hs,hev⟩,fun i hr=>?_⟩
  obtain ⟨o,ho,h1,h2⟩:=ready_spec hr
  have hil:=(Array.getElem?_eq_some_iff.1 ho).1
  obtain ⟨s',hst,hi'⟩:=hI.step l s hi hsz hcl i o ho (by rw [←getD_tf (by omega)]; exact h1) h2
  have hlt:=openN_set hsz ho h1
  unfold wpOp
  rw [ho]
  have:=stepR_ok (w:=w) (X:=X) (loc:=loc) hE hs hst (wpAny P .any ops (fun e a' w'=>e=.normal∧∃ s' X' loc',Q s'∧SR w' X' loc' s' a'∧Evo w0 X0 hc0 w' X' (s'.hc loc')) fuel (l.setIfInBounds i true))
   (fun e a' w'=>e=.normal∧∃ s' X' loc',Q s'∧SR w' X' loc' s' a'∧Evo w0 X0 hc0 w' X' (s'.hc loc')) (fun c w' X' loc' g1 g2=>ih _ s' _ w' X' loc' hi' (by simpa using hsz) (closed_set hsz ho h2 hcl) (by omega) g1 (hev.trans g2))
  simp only
  split
  ·rename_i hw; rw [if_pos hw] at this; exact .inl this
  ·rename_i hw; rw [if_neg hw] at this; exact this
theorem go_tree {n0:Nat} {rs:List ResultVar} {R:AV→St→Prop} {k:List Item} {id:Nat} {s:St} (hB:edgB ops=true) (hI:TreeI P (litOn E) ops Q I) (h0:I (Array.replicate ops.size false) s) (h:∀ s',Q s'→Go P E n0 rs R k s'):
  Go P E n0 rs R (.code (.region id ops true)::k) s:=by
 refine .sem (Q:=Q) (fun hE hm w X loc a hs=>?_) h
 refine wp_region_any hm ?_
 have hb:Below w.heap.size w { w with drawn:=w.drawn+1 }:=⟨rfl,rfl,rfl,Nat.le_refl _,fun _ _=>rfl⟩
 refine tree_any (litOn_ok hE) hB hI ops.size _ s a _ X loc h0 (by simp) ?_ ?_ (hs.below hb) (evo_below hb X _)
 ·intro j oj hj hl
  have hi:=(Array.getElem?_eq_some_iff.1 hj).1
  simp [hi] at hl
 ·unfold openN
  exact Nat.le_trans (List.length_filter_le _ _) (by simp)
end
end Go.SX
