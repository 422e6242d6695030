/-
  Joined texts: SXC, SXD, SXE, SXK.
  Conditions: none.
-/
import Derived.Test.YtdjpkhjaibdogaaGreatL12
namespace Go.SX
set_option linter.unusedSimpArgs false
set_option linter.unusedVariables false
def WeakT:List AV→List AV→Prop
 | [],[]=>True
 | a::T,b::T'=>(b=.jk∨a=b)∧WeakT T T'
 | _,_=>False
theorem weakT_nil:WeakT [] []=True:=rfl
theorem weakT_cons (a b:AV) (T T':List AV):WeakT (a::T) (b::T')=((b=.jk∨a=b)∧WeakT T T'):=rfl
theorem weakT_spec:∀ {T T':List AV},WeakT T T'→T.length=T'.length∧∀ (i:Nat) (b:AV),T'[i]?=some b→b=.jk∨T[i]?=some b
 | [],[],_=>⟨rfl,fun i b h=>by simp at h⟩
 | a::T,b::T',h=>by
  obtain ⟨h1,h2⟩:=h
  obtain ⟨e1,e2⟩:=weakT_spec h2
  refine ⟨by simp [e1],fun i c hc=>?_⟩
  cases i with
  | zero=>
   simp at hc ⊢
   subst hc
   exact h1
  | succ i=>simp at hc ⊢; exact e2 i c hc
 | [],_::_,h=>h.elim
 | _::_,[],h=>h.elim
def WeakH:List Blk→List Blk→Prop
 | _,[]=>True
 | [],b::H'=>b.live=false∧WeakH [] H'
 | a::H,b::H'=>(b.live=false∨a=b)∧WeakH H H'
theorem weakH_nil (H:List Blk):WeakH H []=True:=by cases H <;> rfl
theorem weakH_cons (a b:Blk) (H H':List Blk):WeakH (a::H) (b::H')=((b.live=false∨a=b)∧WeakH H H'):=rfl
theorem weakH_spec:∀ {H H':List Blk},WeakH H H'→∀ (i:Nat) (b:Blk),H'[i]?=some b→b.live=true→H[i]?=some b
 | _,[],_,i,b,h,_=>by simp at h
 | [],b::H',h,i,c,hc,hl=>by
  cases i with
  | zero=>simp at hc; subst hc; rw [h.1] at hl; cases hl
  | succ i=>simp at hc; have:=weakH_spec h.2 i c hc hl; simp at this
 | a::H,b::H',h,i,c,hc,hl=>by
  cases i with
  | zero=>
   simp at hc ⊢; subst hc
   rcases h.1 with h1 | h1
   ·rw [h1] at hl; cases hl
   ·exact h1
  | succ i=>simp at hc ⊢; exact weakH_spec h.2 i c hc hl
section
variable {P:Program} {E:Env} {n0:Nat} {rs:List ResultVar} {R:AV→St→Prop}
theorem go_weak {k:List Item} {T T':List AV} {H H':List Blk} {c c':Nat} (hT:WeakT T T') (hH:WeakH H H') (hc:c≤c') (h:Go P E n0 rs R k ⟨T',H',c'⟩):Go P E n0 rs R k ⟨T,H,c⟩:=by
 refine .ghost (s':=⟨T',H',c'⟩) (fun w X loc a hs=>?_) h
 obtain ⟨h1,h2,h3⟩:=hs
 obtain ⟨g1,g2⟩:=forget_ok (H':=H') (cnt':=c') h1 (weakH_spec hH) hc
 refine ⟨X,loc,⟨g1,?_,h3⟩,fun w0 X0 hc0 _ he=>he.trans g2⟩
 obtain ⟨e1,e2⟩:=weakT_spec hT
 refine ⟨e1.symm.trans h2.1,fun i b v hb hv=>?_⟩
 rcases e2 i b hb with rfl | hb'
 ·exact .jk
 ·exact (h2.2 i b v hb' hv).mono g2 h1
theorem go_loop {σ:Type} (I:σ→Nat→St) (Inv:σ→Prop) (μ:σ→Nat) {c:Code} {k:List Item}
  (hb:∀ x cnt,Inv x→(∀ x' cnt',Inv x'→μ x' < μ x→Go P E n0 rs R (.inLoop c::k) (I x' cnt'))→Go P E n0 rs R (.code c::.inLoop c::k) (I x cnt))
  (x:σ) (cnt:Nat) (h:Inv x):Go P E n0 rs R (.code (.loop c)::k) (I x cnt):=by
 have:∀ n x cnt,μ x < n→Inv x→Go P E n0 rs R (.code c::.inLoop c::k) (I x cnt):=by
  intro n
  induction n with
  | zero=>intro x cnt h; omega
  | succ n ih=>intro x cnt h h'; exact hb x cnt h' (fun x' cnt' h1 h2=>.inLoop (ih x' cnt' (by omega) h1))
 exact .loop (this _ x cnt (Nat.lt_succ_self _) h)
theorem go_loopW {σ:Type} (I:σ→Nat→St) (Inv:σ→Prop) (μ:σ→Nat) (x:σ) {c:Code} {k:List Item} {T:List AV} {H:List Blk} {cnt:Nat}
  (h:Inv x) (hw:WeakT T (I x cnt).T) (hh:WeakH H (I x cnt).H) (hcn:(I x cnt).cnt=cnt)
  (hb:∀ x cnt,Inv x→(∀ x' cnt',Inv x'→μ x' < μ x→Go P E n0 rs R (.inLoop c::k) (I x' cnt'))→Go P E n0 rs R (.code c::.inLoop c::k) (I x cnt)):
  Go P E n0 rs R (.code (.loop c)::k) ⟨T,H,cnt⟩:=
 go_weak hw hh (Nat.le_of_eq hcn.symm) (go_loop I Inv μ hb x cnt h)
end
theorem wrap_u64s {x:Int} (h:0≤x) (h':x < 18446744073709551616):IntKind.u64.wrap x=x:=by
 simp only [IntKind.wrap,IntKind.bits,IntKind.signed]; simp; omega
def lkT:Nat→List (Nat × AV)→AV
 | _,[]=>.jk
 | i,(j,v)::l=>if i=j then v else lkT i l
def mkT:Nat→Nat→List (Nat × AV)→List AV
 | _,0,_=>[]
 | i,n+1,l=>lkT i l::mkT (i+1) n l
end Go.SX

namespace Go.SX
set_option linter.unusedSimpArgs false
set_option linter.unusedVariables false
section
variable {P:Program} {s:St} {H:List Blk}
def allSz (sz:Nat):List AV→Bool
 | []=>true
 | e::r=>decide (e.cells.length=sz) && allSz sz r
theorem allSz_nil (sz:Nat):allSz sz []=true:=rfl
theorem allSz_cons (sz:Nat) (e:AV) (r:List AV):allSz sz (e::r)=(decide (e.cells.length=sz) && allSz sz r):=rfl
theorem allSz_spec {sz:Nat}:∀ {es:List AV},allSz sz es=true→∀ e ∈ es,e.cells.length=sz
 | [],_,e,h=>by cases h
 | a::r,h,e,he=>by
  simp only [allSz,Bool.and_eq_true,decide_eq_true_eq] at h
  rcases List.mem_cons.1 he with rfl | he
  ·exact h.1
  ·exact allSz_spec h.2 e he
theorem allSz_map {α:Type} {f:α→AV} {sz:Nat} (h:∀ x,(f x).cells.length=sz) (l:List α):allSz sz (l.map f)=true:=by
 induction l with
 | nil=>rfl
 | cons x l ih=>simp [allSz,h,ih]
def ixE (H:List Blk) (m:Option Nat) (x i:AV):Option TyD→Option AV
 | some de=>match m,x,i with
  | none,.vw _ es,.sc (.int _ n)=>match (if 0≤n then es[n.toNat]? else none) with
   | some e=>if e.cells.length=de.sz then some (.vp es n.toNat 0) else none
   | none=>none
  | none,.sl id ver lo len,.sc (.int _ n)=>match liveB H id ver with
   | some B=>if 0≤n∧n < (len:Int)∧B.esz=de.sz then some (.pt id ver (lo+n.toNat) 0) else none
   | none=>none
  | some m,.pt id ver k o,.sc (.int _ n)=>match liveB H id ver with
   | some _=>if 0≤n∧n < (m:Int) then some (.pt id ver k (o+n.toNat * de.sz)) else none
   | none=>none
  | some m,.vp es k o,.sc (.int _ n)=>if 0≤n∧n < (m:Int) then some (.vp es k (o+n.toNat * de.sz)) else none
  | _,_,_=>none
 | none=>none
def ixD (P:Program) (H:List Blk) (x i:AV):Option TyD→Option AV
 | some d=>match d.el with
  | some el=>ixE H d.len x i (tyD P el)
  | none=>none
 | none=>none
theorem rval_indexAddr (t:TypeId) (x i:Operand):rval P s (.indexAddr t x i)=ixD P s.H (ev s.T x) (ev s.T i) (tyD P t):=by
 simp only [rval,ixD,ixE]
 cases tyD P t with
 | none=>rfl
 | some d=>
  cases d.el with
  | none=>rfl
  | some el=>
   simp only
   cases tyD P el with
   | none=>rfl
   | some de=>rfl
theorem ixD_some (x i:AV) (ag sz by' z el len fl):ixD P H x i (some ⟨ag,sz,by',z,some el,len,fl⟩)=ixE H len x i (tyD P el):=rfl
theorem ixE_vw {z:Bool} {es:List AV} {k:IntKind} {n:Int} {de:TyD} (h0:decide (0≤n)=true) (h1:decide (n < (es.length:Int))=true) (h2:allSz de.sz es=true):
  ixE H none (.vw z es) (.sc (.int k n)) (some de)=some (.vp es n.toNat 0):=by
 simp only [decide_eq_true_eq] at h0 h1
 have hl:n.toNat < es.length:=by omega
 have:=allSz_spec h2 es[n.toNat] (List.getElem_mem hl)
 simp [ixE,h0,hl,this]
def ixB (len lo ver id:Nat) (n:Int) (de:TyD):Option Blk→Option AV
 | some B=>if 0≤n∧n < (len:Int)∧B.esz=de.sz then some (.pt id ver (lo+n.toNat) 0) else none
 | none=>none
theorem ixE_sl (id ver lo len:Nat) (k:IntKind) (n:Int) (de:TyD):ixE H none (.sl id ver lo len) (.sc (.int k n)) (some de)=ixB len lo ver id n de (liveB H id ver):=by
 simp only [ixE,ixB]
theorem ixB_some {len lo ver id:Nat} {n:Int} {de:TyD} {B:Blk} (h0:decide (0≤n)=true) (h1:decide (n < (len:Int))=true) (h2:(B.esz == de.sz)=true):
  ixB len lo ver id n de (some B)=some (.pt id ver (lo+n.toNat) 0):=by
 simp only [decide_eq_true_eq,beq_iff_eq] at h0 h1 h2
 simp [ixB,h0,h1,h2]
def lenN:Option Nat→Option AV
 | some n=>some (.sc (.int .i64 n))
 | none=>none
def lenD (P:Program) (t:TypeId) (H:List Blk) (x:AV):Option TyD→Option AV
 | some d=>match d.el,d.len with
  | some _,none=>lenN (lenA H x)
  | some _,some m=>some (.sc (.int .i64 m))
  | none,none=>match conc x with
   | some a=>match spure P (Builtin.len_ #[t] 0 #[a]) with
    | some v=>some (ofV v)
    | none=>none
   | none=>none
  | _,_=>none
 | none=>none
theorem rval_len (t:TypeId) (x:Operand):rval P s (.call ⟨.builtin .len,#[x],#[t]⟩)=lenD P t s.H (ev s.T x) (tyD P t):=by
 simp only [rval,lenD]
 cases tyD P t with
 | none=>rfl
 | some d=>
  cases d.el <;> cases d.len <;> rfl
theorem lenD_sl (t:TypeId) (x:AV) (ag sz by' z el fl):lenD P t H x (some ⟨ag,sz,by',z,some el,none,fl⟩)=lenN (lenA H x):=rfl
theorem lenA_vw (z:Bool) (es:List AV):lenA H (.vw z es)=some es.length:=rfl
theorem lenA_sl (id ver lo len:Nat):lenA H (.sl id ver lo len)=some len:=rfl
theorem lenN_some (n:Nat):lenN (some n)=some (.sc (.int .i64 n)):=rfl
def iaD (P:Program) (t:TypeId) (x i:AV):Option TyD→Option AV
 | some d=>match d.el,d.len with
   | some el,some m=>match tyD P el with
    | some de=>match x,i with
     | .ag cs,.sc (.int _ n)=>if 0≤n∧n < (m:Int) then takeT de cs (n.toNat * de.sz) else none
     | _,_=>none
    | none=>none
   | none,none=>match conc x,conc i with
    | some a,some b=>match spure P (Instr.index t a b) with
     | some v=>some (ofV v)
     | none=>none
    | _,_=>none
   | _,_=>none
 | none=>none
theorem rval_index (t:TypeId) (x i:Operand):rval P s (.index t x i)=iaD P t (ev s.T x) (ev s.T i) (tyD P t):=by
 simp only [rval,iaD]
 cases tyD P t with
 | none=>rfl
 | some d=>rfl
end
end Go.SX

namespace Go.SX
set_option linter.unusedSimpArgs false
set_option linter.unusedVariables false
section
variable {P:Program} {s:St} {H:List Blk}
def plc (P:Program):List (Nat × TypeId)→Option (List (Nat × Nat))
 | []=>some []
 | (o,t)::r=>match tyD P t,plc P r with
  | some d,some l=>some ((o,d.sz)::l)
  | _,_=>none
theorem plc_eq:∀ l:List (Nat × TypeId),l.mapM (fun f=>(tyD P f.2).map fun df=>(f.1,df.sz))=plc P l
 | []=>rfl
 | (o,t)::r=>by
  rw [List.mapM_cons,plc_eq r,plc]
  simp only
  cases tyD P t with
  | none=>rfl
  | some d=>cases plc P r <;> rfl
theorem plc_nil:plc P []=some []:=rfl
def plcC (o:Nat):Option TyD→Option (List (Nat × Nat))→Option (List (Nat × Nat))
 | some d,some l=>some ((o,d.sz)::l)
 | _,_=>none
theorem plc_cons (o t:Nat) (r:List (Nat × TypeId)):plc P ((o,t)::r)=plcC o (tyD P t) (plc P r):=by
 rw [plc,plcC.eq_def]
theorem plcC_some (o:Nat) (d:TyD) (l:List (Nat × Nat)):plcC o (some d) (some l)=some ((o,d.sz)::l):=rfl
def bdS (zs:List AV) (l:List (Nat × AV)):Option (List (Nat × Nat))→Option AV
 | some places=>(fillA (fun i=>places[i]?) zs l).map AV.ag
 | none=>none
def bdE (zs:List AV) (l:List (Nat × AV)):Option TyD→Option AV
 | some de=>(fillA (fun i=>some (i * de.sz,de.sz)) zs l).map AV.ag
 | none=>none
def bdZ (P:Program) (d:TyD) (l:List (Nat × AV)):AV→Option AV
 | .ag zs=>match d.len,d.el with
  | some _,some el=>bdE zs l (tyD P el)
  | none,none=>if d.agg=true then bdS zs l (plc P d.flds) else none
  | _,_=>none
 | _=>none
def bdO (P:Program) (d:TyD) (l:List (Nat × AV)):Option Value→Option AV
 | some z=>bdZ P d l (ofAgg z)
 | none=>none
def bdA (P:Program) (l:List (Nat × AV)):Option TyD→Option AV
 | some d=>bdO P d l d.zero
 | none=>none
theorem rval_build (t:TypeId) (ps:Array (Nat × Operand)):rval P s (.build t ps)=bdA P (ps.toList.map fun p=>(p.1,ev s.T p.2)) (tyD P t):=by
 simp only [rval,bdA,bdO]
 cases tyD P t with
 | none=>rfl
 | some d=>
  simp only
  cases d.zero with
  | none=>rfl
  | some z=>
   simp only [bdZ]
   generalize ofAgg z=v
   cases v with
   | ag zs=>
    simp only
    rw [plc_eq]
    generalize plc P d.flds=pl
    generalize d.len=a
    generalize d.el=b
    cases a <;> cases b
    ·simp only [bdS]
     cases pl with
     | none=>rfl
     | some places=>
      simp only
      cases fillA (fun i=>places[i]?) zs (List.map (fun p=>(p.1,ev s.T p.2)) ps.toList) <;> rfl
    ·rfl
    ·rfl
    ·rename_i n el
     simp only [bdE]
     cases tyD P el with
     | none=>rfl
     | some de=>
      simp only
      cases fillA (fun i=>some (i * de.sz,de.sz)) zs (List.map (fun p=>(p.1,ev s.T p.2)) ps.toList) <;> rfl
   | _=>rfl
theorem bdA_some (l:List (Nat × AV)) (ag sz by' z el len fl):bdA P l (some ⟨ag,sz,by',some z,el,len,fl⟩)=bdZ P ⟨ag,sz,by',some z,el,len,fl⟩ l (ofAgg z):=rfl
theorem bdZ_st (l:List (Nat × AV)) (zs:List AV) (sz by' z fl):bdZ P ⟨true,sz,by',z,none,none,fl⟩ l (.ag zs)=bdS zs l (plc P fl):=rfl
theorem bdS_some (zs:List AV) (l:List (Nat × AV)) (pl:List (Nat × Nat)):bdS zs l (some pl)=(fillA (fun i=>pl[i]?) zs l).map AV.ag:=rfl
theorem fillA_nil (pl:Nat→Option (Nat × Nat)) (cs:List AV):fillA pl cs []=some cs:=rfl
def fillB (pl:Nat→Option (Nat × Nat)) (cs:List AV) (v:AV) (r:List (Nat × AV)):Option (Nat × Nat)→Option (List AV)
 | some p=>if v.stor=true∧v.cells.length=p.2∧p.1+p.2≤cs.length then fillA pl (setAll cs p.1 v.cells) r else none
 | none=>none
theorem fillA_cons (pl:Nat→Option (Nat × Nat)) (cs:List AV) (i:Nat) (v:AV) (r:List (Nat × AV)):fillA pl cs ((i,v)::r)=fillB pl cs v r (pl i):=by
 rw [fillA,fillB.eq_def]
 cases pl i <;> rfl
theorem fillB_some (pl:Nat→Option (Nat × Nat)) (cs:List AV) (v:AV) (r:List (Nat × AV)) (o n:Nat):fillB pl cs v r (some (o,n))=
  if v.stor=true∧v.cells.length=n∧o+n≤cs.length then fillA pl (setAll cs o v.cells) r else none:=rfl
theorem setAll_nil {α:Type} (cs:List α) (o:Nat):setAll cs o []=cs:=rfl
theorem setAll_cons {α:Type} (cs:List α) (o:Nat) (v:α) (r:List α):setAll cs o (v::r)=setAll (cs.set o v) (o+1) r:=rfl
theorem setC_ag (cs:List AV) (off:Nat) (vs:List AV):AV.setC (.ag cs) off vs=if off+vs.length≤cs.length then some (.ag (setAll cs off vs)) else none:=rfl
theorem setC_sc (v:Value) (x:AV):AV.setC (.sc v) 0 [x]=some x:=rfl
theorem setC_vw (z:Bool) (es:List AV) (x:AV):AV.setC (.vw z es) 0 [x]=some x:=rfl
theorem setC_sl (a b c d:Nat) (x:AV):AV.setC (.sl a b c d) 0 [x]=some x:=rfl
theorem fillE_nil (sz:Nat) (es:List AV):fillE sz es []=some es:=rfl
theorem fillE_cons (sz:Nat) (es:List AV) (i:Nat) (v:AV) (r:List (Nat × AV)):fillE sz es ((i,v)::r)=
  if v.stor=true∧v.cells.length=sz∧i < es.length then fillE sz (es.set i v) r else none:=rfl
def eqB (c:Bool):Option TypeDesc→Option AV
 | some .bool=>some (.sc (.bool c))
 | _=>none
theorem rd_equalB (t:TypeId) (a b:Bool):rd P (Op.equal t (.bool a) (.bool b)) default=match P.underlying t with | some .bool=>some (a == b) | _=>none:=by
 unfold Op.equal Op.maxDepth
 rw [show (10000:Nat)=9999+1 from rfl,Op.equalIn]
 rw [rd_bind,rd_underlying]
 cases P.underlying t with
 | none=>rfl
 | some d=>cases d <;> rfl
theorem bin_neqB (t:TypeId) (x y:Operand) (a b:Bool):binA P .neq t x y (.sc (.bool a)) (.sc (.bool b))=eqB (a != b) (P.underlying t):=by
 have h0:rd P (eqGuard .neq t x y (.bool a) (.bool b)) default=some ():=rfl
 have:spure P (do eqGuard .neq t x y (.bool a) (.bool b); binOp .neq t (.bool a) (.bool b))=match P.underlying t with | some .bool=>some (.bool (a != b)) | _=>none:=by
  unfold spure
  rw [rd_bind,h0]
  simp only [Option.bind_some,binOp]
  rw [rd_bind,rd_equalB]
  cases P.underlying t with
  | none=>rfl
  | some d=>cases d <;> rfl
 simp only [binA,conc,this]
 cases P.underlying t with
 | none=>rfl
 | some d=>cases d <;> rfl
theorem eqB_bool (c:Bool):eqB c (some .bool)=some (.sc (.bool c)):=rfl
end
end Go.SX

namespace Go.SX
set_option linter.unusedSimpArgs false
set_option linter.unusedVariables false
inductive Kd where
 | b
 | i (k:IntKind)
 | s
 deriving DecidableEq
def okK:Kd→Value→Bool
 | .b,.bool _=>true
 | .i k,.int k' _=>decide (k=k')
 | .s,.string _=>true
 | _,_=>false
def okKs:List Kd→List Value→Bool
 | [],[]=>true
 | k::ks,v::vs=>okK k v && okKs ks vs
 | _,_=>false
theorem okKs_len:∀ {ks:List Kd} {vs:List Value},okKs ks vs=true→vs.length=ks.length
 | [],[],_=>rfl
 | k::ks,v::vs,h=>by
  simp only [okKs,Bool.and_eq_true] at h
  simp [okKs_len h.2]
 | [],_::_,h=>by simp [okKs] at h
 | _::_,[],h=>by simp [okKs] at h
theorem okKs_one {k:Kd} {xs:List Value} (h:okKs [k] xs=true):∃ v,xs=[v]∧okK k v=true:=by
 match xs,h with
 | [v],h=>exact ⟨v,rfl,by simpa [okKs] using h⟩
 | [],h=>simp [okKs] at h
 | _::_::_,h=>simp [okKs] at h
theorem okKs_append:∀ {ks ks':List Kd} {vs:List Value},okKs (ks++ks') vs=true→okKs ks (vs.take ks.length)=true∧okKs ks' (vs.drop ks.length)=true
 | [],ks',vs,h=>by simpa [okKs] using h
 | k::ks,ks',[],h=>by simp [okKs] at h
 | k::ks,ks',v::vs,h=>by
  simp only [List.cons_append,okKs,Bool.and_eq_true] at h
  obtain ⟨h1,h2⟩:=okKs_append h.2
  simp only [List.length_cons,List.take_succ_cons,List.drop_succ_cons,okKs,Bool.and_eq_true]
  exact ⟨⟨h.1,h1⟩,h2⟩
def eqK:Kd→Value→Value→Bool
 | .b,.bool a,.bool b=>a == b
 | .i _,.int _ a,.int _ b=>a == b
 | .s,.string a,.string b=>a == b
 | _,_,_=>false
def eqKs:List Kd→List Value→List Value→Bool
 | k::ks,x::xs,y::ys=>eqK k x y && eqKs ks xs ys
 | _,_,_=>true
theorem eqKs_append:∀ (ks ks':List Kd) (xs ys:List Value),ks.length≤xs.length→ks.length≤ys.length→
  eqKs (ks++ks') xs ys=(eqKs ks (xs.take ks.length) (ys.take ks.length) && eqKs ks' (xs.drop ks.length) (ys.drop ks.length))
 | [],ks',xs,ys,_,_=>by simp [eqKs]
 | k::ks,ks',[],_,h,_=>by simp at h
 | k::ks,ks',_::_,[],_,h=>by simp at h
 | k::ks,ks',x::xs,y::ys,h,h'=>by
  simp only [List.length_cons] at h h'
  simp only [List.cons_append,eqKs,List.length_cons,List.take_succ_cons,List.drop_succ_cons,eqKs_append ks ks' xs ys (by omega) (by omega),Bool.and_assoc]
def flatFs (P:Program) (F:TypeId→Option (List Kd)):Nat→List Field→Option (List Kd)
 | _,[]=>some []
 | off,f::r=>if f.name ≠ "_"∧f.offset=off then
   match F f.type with
   | some ks=>if (P.info? f.type).map (·.size)=some ks.length∧0 < ks.length then (flatFs P F (off+ks.length) r).map (ks++·) else none
   | none=>none
  else none
def flatK (P:Program):Nat→TypeId→Option (List Kd)
 | 0,_=>none
 | d+1,t=>match P.underlying t with
  | some .bool=>some [.b]
  | some (.int k)=>some [.i k]
  | some .string=>some [.s]
  | some (.array n e)=>match flatK P d e with
   | some ks=>if (P.info? e).map (·.size)=some ks.length∧0 < ks.length then some (List.replicate n ks).flatten else none
   | none=>none
  | some (.struct fs)=>if P.stoodInHeld t=false then flatFs P (flatK P d) 0 fs.toList else none
  | _=>none
def mkV (P:Program) (t:TypeId) (vs:List Value):Value:=
 match P.underlying t with
 | some (.struct _) | some (.array _ _)=>.agg vs.toArray
 | _=>vs.headD undef
section
variable {P:Program} {w:World}
theorem rd_isAggK (t:TypeId):rd P (isAgg t) w=(P.underlying t).map fun d=>match d with | .struct _ | .array _ _=>true | _=>false:=by
 unfold isAgg
 rw [rd_bind,rd_underlying]
 cases P.underlying t with
 | none=>rfl
 | some d=>cases d <;> rfl
theorem rd_partK {d:Nat} {t:TypeId} {ks:List Kd} (hk:flatK P d t=some ks) (hs:(P.info? t).map (·.size)=some ks.length) {cs:List Value} {off:Nat} (h:off+ks.length≤cs.length):
  rd P (part t cs.toArray off) w=some (mkV P t ((cs.drop off).take ks.length)):=by
 unfold part
 rw [rd_bind,rd_isAggK]
 cases d with
 | zero=>simp [flatK] at hk
 | succ d=>
  have one:ks.length=1→rd P (match cs.toArray[off]? with | some v=>(pure v:Sem Value) | none=>stuck "part: no such cell") w=some (((cs.drop off).take ks.length).headD undef):=by
   intro h1
   have hlt:off < cs.length:=by omega
   rw [h1,List.drop_eq_getElem_cons hlt]
   simp only [List.getElem?_toArray,List.getElem?_eq_getElem hlt,rd_pure,List.take_succ_cons,List.headD_cons]
  have agg:rd P (do pure (.agg (cs.toArray.extract off (off+(←sizeOf t)))):Sem Value) w=some (.agg ((cs.drop off).take ks.length).toArray):=by
   rw [rd_bind,rd_sizeOf,hs]
   simp only [Option.bind_some,rd_pure]
   congr 2
   simp [List.extract]
  cases hu:P.underlying t with
  | none=>simp [flatK,hu] at hk
  | some q=>
   unfold flatK at hk
   rw [hu] at hk
   unfold mkV
   rw [hu]
   cases q <;> simp only [Option.map_some,Option.bind_some,reduceCtorEq] at hk ⊢
   case bool=>cases hk; exact one rfl
   case int=>cases hk; exact one rfl
   case string=>cases hk; exact one rfl
   case array=>exact agg
   case struct=>exact agg
theorem rd_eqFields {d D:Nat} (ih:∀ (t:TypeId) (ks:List Kd),flatK P D t=some ks→∀ xs ys,okKs ks xs=true→okKs ks ys=true→rd P (Op.equalIn (d+D) t (mkV P t xs) (mkV P t ys)) w=some (eqKs ks xs ys))
  (cs ds:List Value) {body:Field→Option Bool × Unit→Sem (ForInStep (Option Bool × Unit))} {post:Option Bool × Unit→Sem Bool} (hp1:post (none,())=pure true) (hp2:post (some false,())=pure false)
  (hb:∀ (f:Field) s,f.name ≠ "_"→body f s=do
     let a ←part f.type cs.toArray f.offset
     let b ←part f.type ds.toArray f.offset
     let e ←Op.equalIn (d+D) f.type a b
     if (!e)=true then pure (ForInStep.done (some false,())) else pure (ForInStep.yield (none,()))):∀ (fs:List Field) (off:Nat) (ks:List Kd),flatFs P (flatK P D) off fs=some ks→okKs ks (cs.drop off)=true→okKs ks (ds.drop off)=true→
  rd P (forIn fs (none,()) body >>= post) w=some (eqKs ks (cs.drop off) (ds.drop off))
 | [],off,ks,h,h1,h2=>by
  simp only [flatFs,Option.some.injEq] at h
  subst h
  rw [List.forIn_nil,rd_bind,rd_pure,Option.bind_some,hp1]
  rfl
 | f::fs,off,ks,h,h1,h2=>by
  simp only [flatFs] at h
  split at h
  rotate_left
  ·cases h
  rename_i hf
  obtain ⟨hf1,rfl⟩:=hf
  split at h
  rotate_left
  ·cases h
  rename_i k1 hk1
  split at h
  rotate_left
  ·cases h
  rename_i hs
  simp only [Option.map_eq_some_iff] at h
  obtain ⟨k2,hk2,rfl⟩:=h
  have l1:=okKs_len h1
  have l2:=okKs_len h2
  simp only [List.length_append,List.length_drop] at l1 l2
  obtain ⟨a1,a2⟩:=okKs_append h1
  obtain ⟨b1,b2⟩:=okKs_append h2
  obtain ⟨hs,hpos⟩:=hs
  rw [eqKs_append k1 k2 _ _ (by simp; omega) (by simp; omega)]
  rw [List.drop_drop] at a2 b2
  have p1:=rd_partK (w:=w) hk1 hs (cs:=cs) (off:=f.offset) (by omega)
  have p2:=rd_partK (w:=w) hk1 hs (cs:=ds) (off:=f.offset) (by omega)
  have p3:=ih f.type k1 hk1 _ _ a1 b1
  have hrec:=rd_eqFields ih cs ds hp1 hp2 hb fs (f.offset+k1.length) k2 hk2 a2 b2
  rw [rd_bind] at hrec
  rw [rd_bind,List.forIn_cons,rd_bind,hb f _ hf1]
  simp only [rd_bind,p1,p2,p3,Option.bind_some]
  rw [List.drop_drop,List.drop_drop]
  cases he:eqKs k1 (List.take k1.length (List.drop f.offset cs)) (List.take k1.length (List.drop f.offset ds)) with
  | true=>
   simp only [Bool.not_true,Bool.false_eq_true,if_false,rd_pure,Option.bind_some,Bool.true_and]
   exact hrec
  | false=>
   simp only [Bool.not_false,if_true,rd_pure,Option.bind_some,Bool.false_and,hp2]
theorem rd_eqItems {d D:Nat} {e:TypeId} {ks:List Kd} (hk:flatK P D e=some ks) (hs:(P.info? e).map (·.size)=some ks.length) (hpos:0 < ks.length)
  (ih:∀ xs ys,okKs ks xs=true→okKs ks ys=true→rd P (Op.equalIn (d+D) e (mkV P e xs) (mkV P e ys)) w=some (eqKs ks xs ys))
  (cs ds:List Value) {body:Nat→Option Bool × Unit→Sem (ForInStep (Option Bool × Unit))} {post:Option Bool × Unit→Sem Bool} (hp1:post (none,())=pure true) (hp2:post (some false,())=pure false)
  (hb:∀ (i:Nat) s,body i s=do
     let a ←part e cs.toArray (i * ks.length)
     let b ←part e ds.toArray (i * ks.length)
     let e ←Op.equalIn (d+D) e a b
     if (!e)=true then pure (ForInStep.done (some false,())) else pure (ForInStep.yield (none,()))):∀ (n i:Nat),okKs (List.replicate n ks).flatten (cs.drop (i * ks.length))=true→okKs (List.replicate n ks).flatten (ds.drop (i * ks.length))=true→
  rd P (forIn (List.range' i n) (none,()) body >>= post) w=some (eqKs (List.replicate n ks).flatten (cs.drop (i * ks.length)) (ds.drop (i * ks.length)))
 | 0,i,h1,h2=>by
  rw [List.range'_zero,List.forIn_nil,rd_bind,rd_pure,Option.bind_some,hp1]
  rfl
 | n+1,i,h1,h2=>by
  rw [List.replicate_succ,List.flatten_cons] at h1 h2 ⊢
  have l1:=okKs_len h1
  have l2:=okKs_len h2
  simp only [List.length_append,List.length_drop] at l1 l2
  obtain ⟨a1,a2⟩:=okKs_append h1
  obtain ⟨b1,b2⟩:=okKs_append h2
  rw [eqKs_append ks _ _ _ (by simp; omega) (by simp; omega)]
  rw [List.drop_drop] at a2 b2
  have em:i * ks.length+ks.length=(i+1) * ks.length:=by rw [Nat.add_mul,Nat.one_mul]
  rw [em] at a2 b2
  have p1:=rd_partK (w:=w) hk hs (cs:=cs) (off:=i * ks.length) (by omega)
  have p2:=rd_partK (w:=w) hk hs (cs:=ds) (off:=i * ks.length) (by omega)
  have p3:=ih _ _ a1 b1
  have hrec:=rd_eqItems hk hs hpos ih cs ds hp1 hp2 hb n (i+1) a2 b2
  rw [rd_bind] at hrec
  rw [rd_bind,List.range'_succ,List.forIn_cons,rd_bind,hb]
  simp only [rd_bind,p1,p2,p3,Option.bind_some]
  rw [List.drop_drop,List.drop_drop,em]
  cases he:eqKs ks (List.take ks.length (List.drop (i * ks.length) cs)) (List.take ks.length (List.drop (i * ks.length) ds)) with
  | true=>
   simp only [Bool.not_true,Bool.false_eq_true,if_false,rd_pure,Option.bind_some,Bool.true_and]
   exact hrec
  | false=>
   simp only [Bool.not_false,if_true,rd_pure,Option.bind_some,Bool.false_and,hp2]
theorem rd_equalIn (d:Nat):∀ (D:Nat) (t:TypeId) (ks:List Kd),flatK P D t=some ks→∀ xs ys,okKs ks xs=true→okKs ks ys=true→rd P (Op.equalIn (d+D) t (mkV P t xs) (mkV P t ys)) w=some (eqKs ks xs ys)
 | 0,t,ks,h,_,_,_,_=>by simp [flatK] at h
 | D+1,t,ks,h,xs,ys,hx,hy=>by
  have ih:=rd_equalIn d D
  have hd:d+(D+1)=(d+D)+1:=by omega
  unfold flatK at h
  rw [hd]
  unfold mkV
  unfold Op.equalIn
  rw [rd_bind,rd_underlying]
  cases hu:P.underlying t with
  | none=>rw [hu] at h; cases h
  | some q=>
   rw [hu] at h
   cases q <;> simp only [reduceCtorEq] at h
   case bool=>
    cases h
    obtain ⟨a,rfl,ha⟩:=okKs_one hx
    obtain ⟨b,rfl,hb⟩:=okKs_one hy
    cases a <;> simp only [okK,Bool.false_eq_true] at ha
    cases b <;> simp only [okK,Bool.false_eq_true] at hb
    simp [rd_pure,eqKs,eqK]
   case int k=>
    cases h
    obtain ⟨a,rfl,ha⟩:=okKs_one hx
    obtain ⟨b,rfl,hb⟩:=okKs_one hy
    cases a <;> simp only [okK,Bool.false_eq_true,decide_eq_true_eq] at ha
    cases b <;> simp only [okK,Bool.false_eq_true,decide_eq_true_eq] at hb
    subst ha; subst hb
    simp [rd_pure,eqKs,eqK]
   case string=>
    cases h
    obtain ⟨a,rfl,ha⟩:=okKs_one hx
    obtain ⟨b,rfl,hb⟩:=okKs_one hy
    cases a <;> simp only [okK,Bool.false_eq_true] at ha
    cases b <;> simp only [okK,Bool.false_eq_true] at hb
    simp [rd_pure,eqKs,eqK]
   case array n e=>
    split at h
    rotate_left
    ·cases h
    rename_i k1 hk1
    split at h
    rotate_left
    ·cases h
    rename_i hs
    cases h
    simp only [Option.bind_some]
    rw [rd_bind,rd_sizeOf,hs.1]
    simp only [Option.bind_some,Std.Legacy.Range.forIn_eq_forIn_range',Std.Legacy.Range.size,Nat.sub_zero,Nat.add_sub_cancel,Nat.div_one]
    refine (rd_eqItems (w:=w) (d:=d) hk1 hs.1 hs.2 (ih e k1 hk1) xs ys rfl rfl (fun i s=>rfl) n 0 (by simpa using hx) (by simpa using hy)).trans ?_
    simp
   case struct fs=>
    split at h
    rotate_left
    ·cases h
    rename_i hs
    simp only [Option.bind_some]
    rw [rd_bind,rd_program]
    simp only [Option.bind_some,hs,Bool.false_eq_true,if_false]
    rw [←Array.forIn_toList]
    refine (rd_eqFields (w:=w) (d:=d) ih xs ys rfl rfl (fun f s hf=>?_) fs.toList 0 ks h (by simpa using hx) (by simpa using hy)).trans ?_
    ·simp only [hf,ne_eq,not_false_eq_true,if_true]
    ·simp
end
def flK (P:Program) (t:TypeId):Option (List Kd):=
 match P.underlying t with
 | some (.struct _) | some (.array _ _)=>if P.eqGuardType P.depth t=false then flatK P 10 t else none
 | _=>none
def eqM (b:Bool):Option Bool→Option Bool
 | some r=>some (b && r)
 | none=>none
def eqC:List Kd→List AV→List AV→Option Bool
 | [],[],[]=>some true
 | .b::ks,.sc (.bool a)::cs,.sc (.bool b)::ds=>eqM (a == b) (eqC ks cs ds)
 | .i k::ks,.sc (.int k1 a)::cs,.sc (.int k2 b)::ds=>if k=k1∧k=k2 then eqM (a == b) (eqC ks cs ds) else none
 | .s::ks,.sc (.string a)::cs,.sc (.string b)::ds=>eqM (a == b) (eqC ks cs ds)
 | _,_,_=>none
def eqA (cs ds:List AV):Option (List Kd)→Option Bool
 | some ks=>eqC ks cs ds
 | none=>none
theorem eqC_ok:∀ (ks:List Kd) (cs ds:List AV) (r:Bool),eqC ks cs ds=some r→∃ xs ys,concs cs=some xs∧concs ds=some ys∧okKs ks xs=true∧okKs ks ys=true∧eqKs ks xs ys=r
 | [],[],[],r,h=>by simp only [eqC,Option.some.injEq] at h; exact ⟨[],[],rfl,rfl,rfl,rfl,h⟩
 | k::ks,c::cs,e::ds,r,h=>by
  have step:∀ (b:Bool) (u v:Value),eqM b (eqC ks cs ds)=some r→c=.sc u→e=.sc v→okK k u=true→okK k v=true→eqK k u v=b→
    ∃ xs ys,concs (c::cs)=some xs∧concs (e::ds)=some ys∧okKs (k::ks) xs=true∧okKs (k::ks) ys=true∧eqKs (k::ks) xs ys=r:=by
   intro b u v h hc he hu hv hb
   cases hr:eqC ks cs ds with
   | none=>rw [hr] at h; simp [eqM] at h
   | some r'=>
    rw [hr] at h
    simp only [eqM,Option.some.injEq] at h
    obtain ⟨xs,ys,h1,h2,h3,h4,h5⟩:=eqC_ok ks cs ds r' hr
    exact ⟨u::xs,v::ys,by rw [hc]; simp [concs,conc,h1],by rw [he]; simp [concs,conc,h2],by simp [okKs,hu,h3],by simp [okKs,hv,h4],by rw [eqKs,hb,h5,h]⟩
  unfold eqC at h
  split at h
  ·rename_i e1 _ _; cases e1
  ·rename_i e1 e2 e3; cases e1; cases e2; cases e3; exact step _ _ _ h rfl rfl rfl rfl rfl
  ·rename_i e1 e2 e3
   cases e1; cases e2; cases e3
   split at h
   ·rename_i hk
    exact step _ _ _ h rfl rfl (by simp [okK,hk.1]) (by simp [okK,hk.2]) rfl
   ·cases h
  ·rename_i e1 e2 e3; cases e1; cases e2; cases e3; exact step _ _ _ h rfl rfl rfl rfl rfl
  ·cases h
 | [],[],_::_,r,h=>by simp [eqC] at h
 | [],_::_,_,r,h=>by simp [eqC] at h
 | _::_,[],_,r,h=>by unfold eqC at h; split at h <;> simp_all
 | _::_,_::_,[],r,h=>by unfold eqC at h; split at h <;> simp_all
def neR (z:Option AV):Option Bool→Option AV
 | some r=>some (.sc (.bool (!r)))
 | none=>z
def binZ (P:Program) (op:BinOp) (t:TypeId) (x y:Operand) (u v:AV):Option AV:=binA P op t x y u v
section
variable {P:Program} (t:TypeId) (x y:Operand) (cs ds:List AV)
theorem agg_eq {r:Bool} (h:eqA cs ds (flK P t)=some r):∃ a b,conc (.ag cs)=some (.agg a)∧conc (.ag ds)=some (.agg b)∧P.eqGuardType P.depth t=false∧rd P (Op.equal t (.agg a) (.agg b)) default=some r:=by
 unfold flK at h
 split at h
 all_goals first | (simp [eqA] at h; done) | skip
 all_goals
  rename_i hu
  split at h
  rotate_left
  ·simp [eqA] at h
  rename_i hg
  cases hk:flatK P 10 t with
  | none=>rw [hk] at h; simp [eqA] at h
  | some ks=>
   rw [hk] at h
   obtain ⟨xs,ys,h1,h2,h3,h4,h5⟩:=eqC_ok ks cs ds r h
   refine ⟨xs.toArray,ys.toArray,by simp [conc,h1],by simp [conc,h2],hg,?_⟩
   have:=rd_equalIn (P:=P) (w:=default) 9990 10 t ks hk xs ys h3 h4
   unfold mkV at this
   rw [hu] at this
   rw [←h5]
   exact this
theorem guard_agg (op:BinOp) (a b:Array Value) (hg:P.eqGuardType P.depth t=false):rd P (eqGuard op t x y (.agg a) (.agg b)) default=some ():=by
 unfold eqGuard
 split
 ·simp only [Bool.not_true,Bool.false_eq_true,if_false,rd_bind,rd_program,Option.bind_some,hg,Bool.not_false,if_true]
  rfl
 ·simp only [Bool.not_true,Bool.false_eq_true,if_false,rd_bind,rd_program,Option.bind_some,hg,Bool.not_false,if_true]
  rfl
 ·rfl
theorem bin_neqA:binA P .neq t x y (.ag cs) (.ag ds)=neR (binZ P .neq t x y (.ag cs) (.ag ds)) (eqA cs ds (flK P t)):=by
 cases h:eqA cs ds (flK P t) with
 | none=>rfl
 | some r=>
  obtain ⟨a,b,h1,h2,h3,h4⟩:=agg_eq t cs ds h
  have hb:rd P (binOp .neq t (.agg a) (.agg b)) default=some (.bool (!r)):=by
   have:binOp .neq t (.agg a) (.agg b)=(do pure (.bool (!(←Op.equal t (.agg a) (.agg b)))):Sem Value):=rfl
   rw [this,rd_bind,h4]; rfl
  simp only [binA,h1,h2,spure,rd_bind,guard_agg t x y .neq a b h3,Option.bind_some,hb,neR]
  rfl
theorem neR_some (z:Option AV) (r:Bool):neR z (some r)=some (.sc (.bool (!r))):=rfl
theorem eqA_some (ks:List Kd):eqA cs ds (some ks)=eqC ks cs ds:=rfl
theorem eqC_nil:eqC [] [] []=some true:=rfl
theorem eqC_i (ks:List Kd) (k:IntKind) (a b:Int):eqC (.i k::ks) (.sc (.int k a)::cs) (.sc (.int k b)::ds)=eqM (a == b) (eqC ks cs ds):=by simp [eqC]
theorem eqC_s (ks:List Kd) (a b:ByteArray):eqC (.s::ks) (.sc (.string a)::cs) (.sc (.string b)::ds)=eqM (a == b) (eqC ks cs ds):=rfl
theorem eqM_some (b r:Bool):eqM b (some r)=some (b && r):=rfl
end
end Go.SX
