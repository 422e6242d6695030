/-
  Lemmas towards ModesPriority (joined texts: SXC, SXD, SXE, SXK).
  Conditions: none.
-/
import Derived.Test.YtdjpkhjaibdogaaGreatL01
import Derived.Test.YtdjpkhjaibdogaaGreatL11
set_option linter.unusedSimpArgs false
set_option linter.unusedVariables false
set_option maxRecDepth 100000
namespace Go.SX
def OU:List AV→List AV→Prop
 | [],[]=>True
 | a::T,b::T'=>(b=.jk∨a=b)∧OU T T'
 | _,_=>False
theorem T6:OU [] []=True:=rfl
theorem Rx (a b:AV) (T T':List AV):OU (a::T) (b::T')=((b=.jk∨a=b)∧OU T T'):=rfl
theorem Ry:∀ {T T':List AV},OU T T'→T.length=T'.length∧∀ (i:Nat) (b:AV),T'[i]?=some b→b=.jk∨T[i]?=some b
 | [],[],_=>⟨rfl,fun i b h=>by simp at h⟩
 | a::T,b::T',h=>by
  obtain ⟨h1,h2⟩:=h
  obtain ⟨e1,e2⟩:=Ry h2
  refine ⟨by simp [e1],fun i c hc=>?_⟩
  cases i with
  | zero=>
   simp at hc ⊢
   subst hc
   exact h1
  | succ i=>simp at hc ⊢; exact e2 i c hc
 | [],_::_,h=>h.elim
 | _::_,[],h=>h.elim
def JQ:List Blk→List Blk→Prop
 | _,[]=>True
 | [],b::H'=>b.live=false∧JQ [] H'
 | a::H,b::H'=>(b.live=false∨a=b)∧JQ H H'
theorem T7 (H:List Blk):JQ H []=True:=by cases H <;> rfl
theorem Rz (a b:Blk) (H H':List Blk):JQ (a::H) (b::H')=((b.live=false∨a=b)∧JQ H H'):=rfl
theorem Lr:∀ {H H':List Blk},JQ H H'→∀ (i:Nat) (b:Blk),H'[i]?=some b→b.live=true→H[i]?=some b
 | _,[],_,i,b,h,_=>by simp at h
 | [],b::H',h,i,c,hc,hl=>by
  cases i with
  | zero=>simp at hc; subst hc; rw [h.1] at hl; cases hl
  | succ i=>simp at hc; have:=Lr h.2 i c hc hl; simp at this
 | a::H,b::H',h,i,c,hc,hl=>by
  cases i with
  | zero=>
   simp at hc ⊢; subst hc
   rcases h.1 with h1 | h1
   ·rw [h1] at hl; cases hl
   ·exact h1
  | succ i=>simp at hc ⊢; exact Lr h.2 i c hc hl
section
variable {P:Program} {E:Env} {n0:Nat} {rs:List ResultVar} {R:AV→St→Prop}
theorem AB {k:List Item} {T T':List AV} {H H':List Blk} {c c':Nat} (hT:OU T T') (hH:JQ H H') (hc:c≤c') (h:Go P E n0 rs R k ⟨T',H',c'⟩):Go P E n0 rs R k ⟨T,H,c⟩:=by
 refine .ghost (s':=⟨T',H',c'⟩) (fun w X loc a hs=>?_) h
 obtain ⟨h1,h2,h3⟩:=hs
 obtain ⟨g1,g2⟩:=Tm (H':=H') (cnt':=c') h1 (Lr hH) hc
 refine ⟨X,loc,⟨g1,?_,h3⟩,fun w0 X0 Cc _ he=>he.trans g2⟩
 obtain ⟨e1,e2⟩:=Ry hT
 refine ⟨e1.symm.trans h2.1,fun i b v hb hv=>?_⟩
 rcases e2 i b hb with rfl | hb'
 ·exact .jk
 ·exact (h2.2 i b v hb' hv).mono g2 h1
theorem Ar5 {σ:Type} (I:σ→Nat→St) (Inv:σ→Prop) (μ:σ→Nat) {c:Code} {k:List Item}
  (hb:∀ x cnt,Inv x→(∀ x' cnt',Inv x'→μ x' < μ x→Go P E n0 rs R (.inLoop c::k) (I x' cnt'))→Go P E n0 rs R (.code c::.inLoop c::k) (I x cnt))
  (x:σ) (cnt:Nat) (h:Inv x):Go P E n0 rs R (.code (.loop c)::k) (I x cnt):=by
 have:∀ n x cnt,μ x < n→Inv x→Go P E n0 rs R (.code c::.inLoop c::k) (I x cnt):=by
  intro n
  induction n with
  | zero=>intro x cnt h; omega
  | succ n ih=>intro x cnt h h'; exact hb x cnt h' (fun x' cnt' h1 h2=>.inLoop (ih x' cnt' (by omega) h1))
 exact .loop (this _ x cnt (WL _) h)
theorem Az {σ:Type} (I:σ→Nat→St) (Inv:σ→Prop) (μ:σ→Nat) (x:σ) {c:Code} {k:List Item} {T:List AV} {H:List Blk} {cnt:Nat}
  (h:Inv x) (hw:OU T (I x cnt).T) (hh:JQ H (I x cnt).H) (hcn:(I x cnt).cnt=cnt)
  (hb:∀ x cnt,Inv x→(∀ x' cnt',Inv x'→μ x' < μ x→Go P E n0 rs R (.inLoop c::k) (I x' cnt'))→Go P E n0 rs R (.code c::.inLoop c::k) (I x cnt)):
  Go P E n0 rs R (.code (.loop c)::k) ⟨T,H,cnt⟩:=
 AB hw hh (Nat.le_of_eq hcn.symm) (Ar5 I Inv μ hb x cnt h)
end
theorem Ew {x:Int} (h:-9223372036854775808≤x) (h':x < 9223372036854775808):IntKind.i64.wrap x=x:=by
 exact Ayq
theorem Ie {x:Int} (h:0≤x) (h':x < 18446744073709551616):IntKind.u64.wrap x=x:=by
 exact Ayq
theorem GZ {x:Int} (h:0≤x) (h':x < 4294967296):IntKind.u32.wrap x=x:=by
 exact Ayq
def Jw:Nat→List (Nat × AV)→AV
 | _,[]=>.jk
 | i,(j,v)::l=>if i=j then v else Jw i l
def CW:Nat→Nat→List (Nat × AV)→List AV
 | _,0,_=>[]
 | i,n+1,l=>Jw i l::CW (i+1) n l
section
variable {P:Program} {s:St} {H:List Blk}
def Bs (sz:Nat):List AV→Bool
 | []=>true
 | e::r=>decide (e.cells.length=sz) && Bs sz r
theorem T8 (sz:Nat):Bs sz []=true:=rfl
theorem Ls (sz:Nat) (e:AV) (r:List AV):Bs sz (e::r)=(decide (e.cells.length=sz) && Bs sz r):=rfl
theorem RA {sz:Nat}:∀ {es:List AV},Bs sz es=true→∀ e ∈ es,e.cells.length=sz
 | [],_,e,h=>by cases h
 | a::r,h,e,he=>by
  simp only [Bs,AH,Bw] at h
  rcases lx59.1 he with rfl | he
  ·exact h.1
  ·exact RA h.2 e he
theorem BT {α:Type} {f:α→AV} {sz:Nat} (h:∀ x,(f x).cells.length=sz) (l:List α):Bs sz (l.map f)=true:=by
 induction l with
 | nil=>rfl
 | cons x l ih=>simp [Bs,h,ih]
def ixE (H:List Blk) (m:Option Nat) (x i:AV):Option TyD→Option AV
 | some de=>match m,x,i with
  | none,.vw _ es,.sc (.int _ n)=>match (if 0≤n then es[n.toNat]? else none) with
   | some e=>if e.cells.length=de.sz then some (.vp es n.toNat 0) else none
   | none=>none
  | none,.sl id ver lo len,.sc (.int _ n)=>match AJ H id ver with
   | some B=>if 0≤n∧n < (len:Int)∧B.esz=de.sz then some (.pt id ver (lo+n.toNat) 0) else none
   | none=>none
  | some m,.pt id ver k o,.sc (.int _ n)=>match AJ H id ver with
   | some _=>if 0≤n∧n < (m:Int) then some (.pt id ver k (o+n.toNat * de.sz)) else none
   | none=>none
  | some m,.vp es k o,.sc (.int _ n)=>if 0≤n∧n < (m:Int) then some (.vp es k (o+n.toNat * de.sz)) else none
  | _,_,_=>none
 | none=>none
def ixD (P:Program) (H:List Blk) (x i:AV):Option TyD→Option AV
 | some d=>match d.el with
  | some el=>ixE H d.len x i (AR P el)
  | none=>none
 | none=>none
theorem JR (t:TypeId) (x i:Operand):Ay P s (.indexAddr t x i)=ixD P s.H (ev s.T x) (ev s.T i) (AR P t):=by
 simp only [Ay,ixD,ixE]
 cases AR P t with
 | none=>rfl
 | some d=>
  cases d.el with
  | none=>rfl
  | some el=>
   simp only
   cases AR P el with
   | none=>rfl
   | some de=>rfl
theorem X8 (x i:AV) (ag sz by' z el len fl):ixD P H x i (some ⟨ag,sz,by',z,some el,len,fl⟩)=ixE H len x i (AR P el):=rfl
theorem Alj {z:Bool} {es:List AV} {k:IntKind} {n:Int} {de:TyD} (h0:decide (0≤n)=true) (h1:decide (n < (es.length:Int))=true) (h2:Bs de.sz es=true):
  ixE H none (.vw z es) (.sc (.int k n)) (some de)=some (.vp es n.toNat 0):=by
 simp only [Bw] at h0 h1
 have hl:n.toNat < es.length:=An
 have:=RA h2 es[n.toNat] (lx89 hl)
 simp [ixE,h0,hl,this]
def ixB (len lo ver id:Nat) (n:Int) (de:TyD):Option Blk→Option AV
 | some B=>if 0≤n∧n < (len:Int)∧B.esz=de.sz then some (.pt id ver (lo+n.toNat) 0) else none
 | none=>none
theorem Alk (id ver lo len:Nat) (k:IntKind) (n:Int) (de:TyD):ixE H none (.sl id ver lo len) (.sc (.int k n)) (some de)=ixB len lo ver id n de (AJ H id ver):=by
 simp only [ixE,ixB]
theorem X9 {len lo ver id:Nat} {n:Int} {de:TyD} {B:Blk} (h0:decide (0≤n)=true) (h1:decide (n < (len:Int))=true) (h2:(B.esz == de.sz)=true):
  ixB len lo ver id n de (some B)=some (.pt id ver (lo+n.toNat) 0):=by
 simp only [Bw,lx86] at h0 h1 h2
 simp [ixB,h0,h1,h2]
def Az8:Option Nat→Option AV
 | some n=>some (.sc (.int .i64 n))
 | none=>none
def All (P:Program) (t:TypeId) (H:List Blk) (x:AV):Option TyD→Option AV
 | some d=>match d.el,d.len with
  | some _,none=>Az8 (Aam H x)
  | some _,some m=>some (.sc (.int .i64 m))
  | none,none=>match Bp x with
   | some a=>match Bh P (Builtin.len_ #[t] 0 #[a]) with
    | some v=>some (LX v)
    | none=>none
   | none=>none
  | _,_=>none
 | none=>none
theorem Ya (t:TypeId) (x:Operand):Ay P s (.call ⟨.builtin .len,#[x],#[t]⟩)=All P t s.H (ev s.T x) (AR P t):=by
 simp only [Ay,All]
 cases AR P t with
 | none=>rfl
 | some d=>
  cases d.el <;> cases d.len <;> rfl
theorem Aec (t:TypeId) (x:AV) (ag sz by' z el fl):All P t H x (some ⟨ag,sz,by',z,some el,none,fl⟩)=Az8 (Aam H x):=rfl
theorem Aed (z:Bool) (es:List AV):Aam H (.vw z es)=some es.length:=rfl
theorem Aee (id ver lo len:Nat):Aam H (.sl id ver lo len)=some len:=rfl
theorem T9 (n:Nat):Az8 (some n)=some (.sc (.int .i64 n)):=rfl
def Ar6 (cs:List AV) (off:Nat):Option TyD→Option AV
 | some df=>DZ df cs off
 | none=>none
def Ar7 (P:Program) (cs:List AV):Option (Nat × TypeId)→Option AV
 | some p=>Ar6 cs p.1 (AR P p.2)
 | none=>none
def Az9 (P:Program) (x:AV) (f:Nat):Option TyD→Option AV
 | some d=>match x with
  | .ag cs=>Ar7 P cs d.flds[f]?
  | _=>none
 | none=>none
theorem RB (t:TypeId) (x:Operand) (f:Nat):Ay P s (.field t x f)=Az9 P (ev s.T x) f (AR P t):=by
 simp only [Ay,Az9,Ar7,Ar6]
 generalize ev s.T x=v
 cases AR P t with
 | none=>rfl
 | some d=>
  cases hf:d.flds[f]? with
  | none=>cases v <;> simp [hf]
  | some p=>
   obtain ⟨off,ft⟩:=p
   cases hd:AR P ft <;> cases v <;> simp [hf,hd]
theorem Aef (cs:List AV) (f:Nat) (d:TyD):Az9 P (.ag cs) f (some d)=Ar7 P cs d.flds[f]?:=rfl
theorem Ua (cs:List AV) (off:Nat) (t:TypeId):Ar7 P cs (some (off,t))=Ar6 cs off (AR P t):=rfl
theorem Ub (cs:List AV) (off:Nat) (d:TyD):Ar6 cs off (some d)=DZ d cs off:=rfl
def iaD (P:Program) (t:TypeId) (x i:AV):Option TyD→Option AV
 | some d=>match d.el,d.len with
   | some el,some m=>match AR P el with
    | some de=>match x,i with
     | .ag cs,.sc (.int _ n)=>if 0≤n∧n < (m:Int) then DZ de cs (n.toNat * de.sz) else none
     | _,_=>none
    | none=>none
   | none,none=>match Bp x,Bp i with
    | some a,some b=>match Bh P (Instr.index t a b) with
     | some v=>some (LX v)
     | none=>none
    | _,_=>none
   | _,_=>none
 | none=>none
theorem RC (t:TypeId) (x i:Operand):Ay P s (.index t x i)=iaD P t (ev s.T x) (ev s.T i) (AR P t):=by
 simp only [Ay,iaD]
 cases AR P t with
 | none=>rfl
 | some d=>rfl
end
section
variable {P:Program} {s:St} {H:List Blk}
def plc (P:Program):List (Nat × TypeId)→Option (List (Nat × Nat))
 | []=>some []
 | (o,t)::r=>match AR P t,plc P r with
  | some d,some l=>some ((o,d.sz)::l)
  | _,_=>none
theorem Aln:∀ l:List (Nat × TypeId),l.mapM (fun f=>(AR P f.2).map fun df=>(f.1,df.sz))=plc P l
 | []=>rfl
 | (o,t)::r=>by
  rw [List.mapM_cons,Aln r,plc]
  simp only
  cases AR P t with
  | none=>rfl
  | some d=>cases plc P r <;> rfl
theorem Aeg:plc P []=some []:=rfl
def Bbu (o:Nat):Option TyD→Option (List (Nat × Nat))→Option (List (Nat × Nat))
 | some d,some l=>some ((o,d.sz)::l)
 | _,_=>none
theorem Yb (o t:Nat) (r:List (Nat × TypeId)):plc P ((o,t)::r)=Bbu o (AR P t) (plc P r):=by
 rw [plc,Bbu.eq_def]
theorem Uc (o:Nat) (d:TyD) (l:List (Nat × Nat)):Bbu o (some d) (some l)=some ((o,d.sz)::l):=rfl
def bdS (zs:List AV) (l:List (Nat × AV)):Option (List (Nat × Nat))→Option AV
 | some places=>(Fa (fun i=>places[i]?) zs l).map AV.ag
 | none=>none
def bdE (zs:List AV) (l:List (Nat × AV)):Option TyD→Option AV
 | some de=>(Fa (fun i=>some (i * de.sz,de.sz)) zs l).map AV.ag
 | none=>none
def bdZ (P:Program) (d:TyD) (l:List (Nat × AV)):AV→Option AV
 | .ag zs=>match d.len,d.el with
  | some _,some el=>bdE zs l (AR P el)
  | none,none=>if d.agg=true then bdS zs l (plc P d.flds) else none
  | _,_=>none
 | _=>none
def bdO (P:Program) (d:TyD) (l:List (Nat × AV)):Option Value→Option AV
 | some z=>bdZ P d l (Ax z)
 | none=>none
def bdA (P:Program) (l:List (Nat × AV)):Option TyD→Option AV
 | some d=>bdO P d l d.zero
 | none=>none
theorem RD (t:TypeId) (ps:Array (Nat × Operand)):Ay P s (.build t ps)=bdA P (ps.toList.map fun p=>(p.1,ev s.T p.2)) (AR P t):=by
 simp only [Ay,bdA,bdO]
 cases AR P t with
 | none=>rfl
 | some d=>
  simp only
  cases d.zero with
  | none=>rfl
  | some z=>
   simp only [bdZ]
   generalize Ax z=v
   cases v with
   | ag zs=>
    simp only
    rw [Aln]
    generalize plc P d.flds=pl
    generalize d.len=a
    generalize d.el=b
    cases a <;> cases b
    ·simp only [bdS]
     cases pl with
     | none=>rfl
     | some places=>
      simp only
      cases Fa (fun i=>places[i]?) zs (List.map (fun p=>(p.1,ev s.T p.2)) ps.toList) <;> rfl
    ·rfl
    ·rfl
    ·rename_i n el
     simp only [bdE]
     cases AR P el with
     | none=>rfl
     | some de=>
      simp only
      cases Fa (fun i=>some (i * de.sz,de.sz)) zs (List.map (fun p=>(p.1,ev s.T p.2)) ps.toList) <;> rfl
   | _=>rfl
theorem Yc (l:List (Nat × AV)) (ag sz by' z el len fl):bdA P l (some ⟨ag,sz,by',some z,el,len,fl⟩)=bdZ P ⟨ag,sz,by',some z,el,len,fl⟩ l (Ax z):=rfl
theorem Alo (l:List (Nat × AV)) (zs:List AV) (sz by' z fl):bdZ P ⟨true,sz,by',z,none,none,fl⟩ l (.ag zs)=bdS zs l (plc P fl):=rfl
theorem Yd (zs:List AV) (l:List (Nat × AV)) (pl:List (Nat × Nat)):bdS zs l (some pl)=(Fa (fun i=>pl[i]?) zs l).map AV.ag:=rfl
theorem Ud (pl:Nat→Option (Nat × Nat)) (cs:List AV):Fa pl cs []=some cs:=rfl
def Aqb (pl:Nat→Option (Nat × Nat)) (cs:List AV) (v:AV) (r:List (Nat × AV)):Option (Nat × Nat)→Option (List AV)
 | some p=>if v.stor=true∧v.cells.length=p.2∧p.1+p.2≤cs.length then Fa pl (setAll cs p.1 v.cells) r else none
 | none=>none
theorem RE (pl:Nat→Option (Nat × Nat)) (cs:List AV) (i:Nat) (v:AV) (r:List (Nat × AV)):Fa pl cs ((i,v)::r)=Aqb pl cs v r (pl i):=by
 rw [Fa,Aqb.eq_def]
 cases pl i <;> rfl
theorem RF (pl:Nat→Option (Nat × Nat)) (cs:List AV) (v:AV) (r:List (Nat × AV)) (o n:Nat):Aqb pl cs v r (some (o,n))=
  if v.stor=true∧v.cells.length=n∧o+n≤cs.length then Fa pl (setAll cs o v.cells) r else none:=rfl
theorem Ha {α:Type} (cs:List α) (o:Nat):setAll cs o []=cs:=rfl
theorem Gb {α:Type} (cs:List α) (o:Nat) (v:α) (r:List α):setAll cs o (v::r)=setAll (cs.set o v) (o+1) r:=rfl
theorem Aeh (cs:List AV) (off:Nat) (vs:List AV):AV.setC (.ag cs) off vs=if off+vs.length≤cs.length then some (.ag (setAll cs off vs)) else none:=rfl
theorem Aei (v:Value) (x:AV):AV.setC (.sc v) 0 [x]=some x:=rfl
theorem Aej (z:Bool) (es:List AV) (x:AV):AV.setC (.vw z es) 0 [x]=some x:=rfl
theorem Aek (a b c d:Nat) (x:AV):AV.setC (.sl a b c d) 0 [x]=some x:=rfl
theorem Ue (sz:Nat) (es:List AV):G5 sz es []=some es:=rfl
theorem RG (sz:Nat) (es:List AV) (i:Nat) (v:AV) (r:List (Nat × AV)):G5 sz es ((i,v)::r)=
  if v.stor=true∧v.cells.length=sz∧i < es.length then G5 sz (es.set i v) r else none:=rfl
def eqB (c:Bool):Option TypeDesc→Option AV
 | some .bool=>some (.sc (.bool c))
 | _=>none
theorem Ahm (t:TypeId) (a b:Bool):rd P (Op.equal t (.bool a) (.bool b)) default=match P.underlying t with | some .bool=>some (a == b) | _=>none:=by
 unfold Op.equal Op.maxDepth
 rw [show (10000:Nat)=9999+1 from rfl,Op.equalIn]
 rw [Ah,Ar]
 cases P.underlying t with
 | none=>rfl
 | some d=>cases d <;> rfl
theorem Ye (t:TypeId) (x y:Operand) (a b:Bool):Da P .neq t x y (.sc (.bool a)) (.sc (.bool b))=eqB (a != b) (P.underlying t):=by
 have h0:rd P (eqGuard .neq t x y (.bool a) (.bool b)) default=some ():=rfl
 have:Bh P (do eqGuard .neq t x y (.bool a) (.bool b); binOp .neq t (.bool a) (.bool b))=match P.underlying t with | some .bool=>some (.bool (a != b)) | _=>none:=by
  unfold Bh
  rw [Ah,h0]
  simp only [lx17,binOp]
  rw [Ah,Ahm]
  cases P.underlying t with
  | none=>rfl
  | some d=>cases d <;> rfl
 simp only [Da,Bp,this]
 cases P.underlying t with
 | none=>rfl
 | some d=>cases d <;> rfl
theorem Yf (c:Bool):eqB c (some .bool)=some (.sc (.bool c)):=rfl
end
inductive Kd where
 | b
 | i (k:IntKind)
 | s
 deriving DecidableEq
def okK:Kd→Value→Bool
 | .b,.bool _=>true
 | .i k,.int k' _=>decide (k=k')
 | .s,.string _=>true
 | _,_=>false
def Eb:List Kd→List Value→Bool
 | [],[]=>true
 | k::ks,v::vs=>okK k v && Eb ks vs
 | _,_=>false
theorem JS:∀ {ks:List Kd} {vs:List Value},Eb ks vs=true→vs.length=ks.length
 | [],[],_=>rfl
 | k::ks,v::vs,h=>by
  simp only [Eb,AH] at h
  simp [JS h.2]
 | [],_::_,h=>by simp [Eb] at h
 | _::_,[],h=>by simp [Eb] at h
theorem Mw {k:Kd} {xs:List Value} (h:Eb [k] xs=true):∃ v,xs=[v]∧okK k v=true:=by
 match xs,h with
 | [v],h=>exact ⟨v,rfl,by simpa [Eb] using h⟩
 | [],h=>simp [Eb] at h
 | _::_::_,h=>simp [Eb] at h
theorem Gc:∀ {ks ks':List Kd} {vs:List Value},Eb (ks++ks') vs=true→Eb ks (vs.take ks.length)=true∧Eb ks' (vs.drop ks.length)=true
 | [],ks',vs,h=>by simpa [Eb] using h
 | k::ks,ks',[],h=>by simp [Eb] at h
 | k::ks,ks',v::vs,h=>by
  simp only [lx90,Eb,AH] at h
  obtain ⟨h1,h2⟩:=Gc h.2
  simp only [lx52,lx91,List.drop_succ_cons,Eb,AH]
  exact ⟨⟨h.1,h1⟩,h2⟩
def eqK:Kd→Value→Value→Bool
 | .b,.bool a,.bool b=>a == b
 | .i _,.int _ a,.int _ b=>a == b
 | .s,.string a,.string b=>a == b
 | _,_,_=>false
def Jx:List Kd→List Value→List Value→Bool
 | k::ks,x::xs,y::ys=>eqK k x y && Jx ks xs ys
 | _,_,_=>true
theorem JT:∀ (ks ks':List Kd) (xs ys:List Value),ks.length≤xs.length→ks.length≤ys.length→
  Jx (ks++ks') xs ys=(Jx ks (xs.take ks.length) (ys.take ks.length) && Jx ks' (xs.drop ks.length) (ys.drop ks.length))
 | [],ks',xs,ys,_,_=>by simp [Jx]
 | k::ks,ks',[],_,h,_=>by simp at h
 | k::ks,ks',_::_,[],_,h=>by simp at h
 | k::ks,ks',x::xs,y::ys,h,h'=>by
  simp only [lx52] at h h'
  simp only [lx90,Jx,lx52,lx91,List.drop_succ_cons,JT ks ks' xs ys (by omega) (by omega),Bool.and_assoc]
def RH (P:Program) (F:TypeId→Option (List Kd)):Nat→List Field→Option (List Kd)
 | _,[]=>some []
 | off,f::r=>if f.name ≠ "_"∧f.offset=off then
   match F f.type with
   | some ks=>if (P.info? f.type).map (·.size)=some ks.length∧0 < ks.length then (RH P F (off+ks.length) r).map (ks++·) else none
   | none=>none
  else none
def HE (P:Program):Nat→TypeId→Option (List Kd)
 | 0,_=>none
 | d+1,t=>match P.underlying t with
  | some .bool=>some [.b]
  | some (.int k)=>some [.i k]
  | some .string=>some [.s]
  | some (.array n e)=>match HE P d e with
   | some ks=>if (P.info? e).map (·.size)=some ks.length∧0 < ks.length then some (List.replicate n ks).flatten else none
   | none=>none
  | some (.struct fs)=>if P.stoodInHeld t=false then RH P (HE P d) 0 fs.toList else none
  | _=>none
def mkV (P:Program) (t:TypeId) (vs:List Value):Value:=
 match P.underlying t with
 | some (.struct _) | some (.array _ _)=>.agg vs.toArray
 | _=>vs.headD undef
section
variable {P:Program} {w:World}
theorem Ahn (t:TypeId):rd P (isAgg t) w=(P.underlying t).map fun d=>match d with | .struct _ | .array _ _=>true | _=>false:=by
 unfold isAgg
 rw [Ah,Ar]
 cases P.underlying t with
 | none=>rfl
 | some d=>cases d <;> rfl
theorem Mx {d:Nat} {t:TypeId} {ks:List Kd} (hk:HE P d t=some ks) (hs:(P.info? t).map (·.size)=some ks.length) {cs:List Value} {off:Nat} (h:off+ks.length≤cs.length):
  rd P (part t cs.toArray off) w=some (mkV P t ((cs.drop off).take ks.length)):=by
 unfold part
 rw [Ah,Ahn]
 cases d with
 | zero=>simp [HE] at hk
 | succ d=>
  have one:ks.length=1→rd P (match cs.toArray[off]? with | some v=>(pure v:Sem Value) | none=>stuck "part: no such cell") w=some (((cs.drop off).take ks.length).headD undef):=by
   intro h1
   have hlt:off < cs.length:=An
   rw [h1,lx76 hlt]
   simp only [lx39,lx50 hlt,Al,lx91,List.headD_cons]
  have agg:rd P (do pure (.agg (cs.toArray.extract off (off+(←sizeOf t)))):Sem Value) w=some (.agg ((cs.drop off).take ks.length).toArray):=by
   rw [Ah,NF,hs]
   simp only [lx17,Al]
   congr 2
   simp [List.extract]
  cases hu:P.underlying t with
  | none=>simp [HE,hu] at hk
  | some q=>
   unfold HE at hk
   rw [hu] at hk
   unfold mkV
   rw [hu]
   cases q <;> simp only [lx34,lx17,reduceCtorEq] at hk ⊢
   case bool=>cases hk; exact one rfl
   case int=>cases hk; exact one rfl
   case string=>cases hk; exact one rfl
   case array=>exact agg
   case struct=>exact agg
theorem OV {d D:Nat} (ih:∀ (t:TypeId) (ks:List Kd),HE P D t=some ks→∀ xs ys,Eb ks xs=true→Eb ks ys=true→rd P (Op.equalIn (d+D) t (mkV P t xs) (mkV P t ys)) w=some (Jx ks xs ys))
  (cs ds:List Value) {body:Field→Option Bool × Unit→Sem (ForInStep (Option Bool × Unit))} {post:Option Bool × Unit→Sem Bool} (hp1:post (none,())=pure true) (hp2:post (some false,())=pure false)
  (hb:∀ (f:Field) s,f.name ≠ "_"→body f s=do
     let a ←part f.type cs.toArray f.offset
     let b ←part f.type ds.toArray f.offset
     let e ←Op.equalIn (d+D) f.type a b
     if (!e)=true then pure (ForInStep.done (some false,())) else pure (ForInStep.yield (none,()))):∀ (fs:List Field) (off:Nat) (ks:List Kd),RH P (HE P D) off fs=some ks→Eb ks (cs.drop off)=true→Eb ks (ds.drop off)=true→
  rd P (forIn fs (none,()) body >>= post) w=some (Jx ks (cs.drop off) (ds.drop off))
 | [],off,ks,h,h1,h2=>by
  simp only [RH,lx16] at h
  subst h
  rw [List.forIn_nil,Ah,Al,lx17,hp1]
  rfl
 | f::fs,off,ks,h,h1,h2=>by
  simp only [RH] at h
  split at h
  rotate_left
  ·cases h
  rename_i hf
  obtain ⟨hf1,rfl⟩:=hf
  split at h
  rotate_left
  ·cases h
  rename_i k1 hk1
  split at h
  rotate_left
  ·cases h
  rename_i hs
  simp only [lx24] at h
  obtain ⟨k2,hk2,rfl⟩:=h
  have l1:=JS h1
  have l2:=JS h2
  simp only [lx7,lx92] at l1 l2
  obtain ⟨a1,a2⟩:=Gc h1
  obtain ⟨b1,b2⟩:=Gc h2
  obtain ⟨hs,hpos⟩:=hs
  rw [JT k1 k2 _ _ (by simp; omega) (by simp; omega)]
  rw [lx80] at a2 b2
  have p1:=Mx (w:=w) hk1 hs (cs:=cs) (off:=f.offset) (by omega)
  have p2:=Mx (w:=w) hk1 hs (cs:=ds) (off:=f.offset) (by omega)
  have p3:=ih f.type k1 hk1 _ _ a1 b1
  have hrec:=OV ih cs ds hp1 hp2 hb fs (f.offset+k1.length) k2 hk2 a2 b2
  rw [Ah] at hrec
  rw [Ah,List.forIn_cons,Ah,hb f _ hf1]
  simp only [Ah,p1,p2,p3,lx17]
  rw [lx80,lx80]
  cases he:Jx k1 (List.take k1.length (List.drop f.offset cs)) (List.take k1.length (List.drop f.offset ds)) with
  | true=>
   exact Auw
  | false=>
   simp only [Bool.not_false,lx8,Al,lx17,Bool.false_and,hp2]
theorem RI {d D:Nat} {e:TypeId} {ks:List Kd} (hk:HE P D e=some ks) (hs:(P.info? e).map (·.size)=some ks.length) (hpos:0 < ks.length)
  (ih:∀ xs ys,Eb ks xs=true→Eb ks ys=true→rd P (Op.equalIn (d+D) e (mkV P e xs) (mkV P e ys)) w=some (Jx ks xs ys))
  (cs ds:List Value) {body:Nat→Option Bool × Unit→Sem (ForInStep (Option Bool × Unit))} {post:Option Bool × Unit→Sem Bool} (hp1:post (none,())=pure true) (hp2:post (some false,())=pure false)
  (hb:∀ (i:Nat) s,body i s=do
     let a ←part e cs.toArray (i * ks.length)
     let b ←part e ds.toArray (i * ks.length)
     let e ←Op.equalIn (d+D) e a b
     if (!e)=true then pure (ForInStep.done (some false,())) else pure (ForInStep.yield (none,()))):∀ (n i:Nat),Eb (List.replicate n ks).flatten (cs.drop (i * ks.length))=true→Eb (List.replicate n ks).flatten (ds.drop (i * ks.length))=true→
  rd P (forIn (List.range' i n) (none,()) body >>= post) w=some (Jx (List.replicate n ks).flatten (cs.drop (i * ks.length)) (ds.drop (i * ks.length)))
 | 0,i,h1,h2=>by
  rw [List.range'_zero,List.forIn_nil,Ah,Al,lx17,hp1]
  rfl
 | n+1,i,h1,h2=>by
  rw [List.replicate_succ,List.flatten_cons] at h1 h2 ⊢
  have l1:=JS h1
  have l2:=JS h2
  simp only [lx7,lx92] at l1 l2
  obtain ⟨a1,a2⟩:=Gc h1
  obtain ⟨b1,b2⟩:=Gc h2
  rw [JT ks _ _ _ (by simp; omega) (by simp; omega)]
  rw [lx80] at a2 b2
  have em:i * ks.length+ks.length=(i+1) * ks.length:=by rw [Gx,Nat.one_mul]
  rw [em] at a2 b2
  have p1:=Mx (w:=w) hk hs (cs:=cs) (off:=i * ks.length) (by omega)
  have p2:=Mx (w:=w) hk hs (cs:=ds) (off:=i * ks.length) (by omega)
  have p3:=ih _ _ a1 b1
  have hrec:=RI hk hs hpos ih cs ds hp1 hp2 hb n (i+1) a2 b2
  rw [Ah] at hrec
  rw [Ah,List.range'_succ,List.forIn_cons,Ah,hb]
  simp only [Ah,p1,p2,p3,lx17]
  rw [lx80,lx80,em]
  cases he:Jx ks (List.take ks.length (List.drop (i * ks.length) cs)) (List.take ks.length (List.drop (i * ks.length) ds)) with
  | true=>
   exact Auw
  | false=>
   simp only [Bool.not_false,lx8,Al,lx17,Bool.false_and,hp2]
theorem RJ (d:Nat):∀ (D:Nat) (t:TypeId) (ks:List Kd),HE P D t=some ks→∀ xs ys,Eb ks xs=true→Eb ks ys=true→rd P (Op.equalIn (d+D) t (mkV P t xs) (mkV P t ys)) w=some (Jx ks xs ys)
 | 0,t,ks,h,_,_,_,_=>by simp [HE] at h
 | D+1,t,ks,h,xs,ys,hx,hy=>by
  have ih:=RJ d D
  have hd:d+(D+1)=(d+D)+1:=An
  unfold HE at h
  rw [hd]
  unfold mkV
  unfold Op.equalIn
  rw [Ah,Ar]
  cases hu:P.underlying t with
  | none=>rw [hu] at h; cases h
  | some q=>
   rw [hu] at h
   cases q <;> simp only [reduceCtorEq] at h
   case bool=>
    exact Bcz
   case int k=>
    cases h
    obtain ⟨a,rfl,ha⟩:=Mw hx
    obtain ⟨b,rfl,hb⟩:=Mw hy
    cases a <;> simp only [okK,DD,Bw] at ha
    cases b <;> simp only [okK,DD,Bw] at hb
    subst ha; subst hb
    simp [Al,Jx,eqK]
   case string=>
    exact Bcz
   case array n e=>
    split at h
    rotate_left
    ·cases h
    rename_i k1 hk1
    split at h
    rotate_left
    ·cases h
    rename_i hs
    cases h
    simp only [lx17]
    rw [Ah,NF,hs.1]
    simp only [lx17,Std.Legacy.Range.forIn_eq_forIn_range',Std.Legacy.Range.size,Nat.sub_zero,Nat.add_sub_cancel,Nat.div_one]
    refine (RI (w:=w) (d:=d) hk1 hs.1 hs.2 (ih e k1 hk1) xs ys rfl rfl (fun i s=>rfl) n 0 (by simpa using hx) (by simpa using hy)).trans ?_
    simp
   case struct fs=>
    split at h
    rotate_left
    ·cases h
    rename_i hs
    simp only [lx17]
    rw [Ah,G4]
    simp only [lx17,hs,DD,lx9]
    rw [←Array.forIn_toList]
    refine (OV (w:=w) (d:=d) ih xs ys rfl rfl (fun f s hf=>?_) fs.toList 0 ks h (by simpa using hx) (by simpa using hy)).trans ?_
    ·simp only [hf,ne_eq,not_false_eq_true,lx8]
    ·simp
end
def flK (P:Program) (t:TypeId):Option (List Kd):=
 match P.underlying t with
 | some (.struct _) | some (.array _ _)=>if P.eqGuardType P.depth t=false then HE P 10 t else none
 | _=>none
def eqM (b:Bool):Option Bool→Option Bool
 | some r=>some (b && r)
 | none=>none
def Uf:List Kd→List AV→List AV→Option Bool
 | [],[],[]=>some true
 | .b::ks,.sc (.bool a)::cs,.sc (.bool b)::ds=>eqM (a == b) (Uf ks cs ds)
 | .i k::ks,.sc (.int k1 a)::cs,.sc (.int k2 b)::ds=>if k=k1∧k=k2 then eqM (a == b) (Uf ks cs ds) else none
 | .s::ks,.sc (.string a)::cs,.sc (.string b)::ds=>eqM (a == b) (Uf ks cs ds)
 | _,_,_=>none
def eqA (cs ds:List AV):Option (List Kd)→Option Bool
 | some ks=>Uf ks cs ds
 | none=>none
theorem Alp:∀ (ks:List Kd) (cs ds:List AV) (r:Bool),Uf ks cs ds=some r→∃ xs ys,C7 cs=some xs∧C7 ds=some ys∧Eb ks xs=true∧Eb ks ys=true∧Jx ks xs ys=r
 | [],[],[],r,h=>by simp only [Uf,lx16] at h; exact ⟨[],[],rfl,rfl,rfl,rfl,h⟩
 | k::ks,c::cs,e::ds,r,h=>by
  have step:∀ (b:Bool) (u v:Value),eqM b (Uf ks cs ds)=some r→c=.sc u→e=.sc v→okK k u=true→okK k v=true→eqK k u v=b→
    ∃ xs ys,C7 (c::cs)=some xs∧C7 (e::ds)=some ys∧Eb (k::ks) xs=true∧Eb (k::ks) ys=true∧Jx (k::ks) xs ys=r:=by
   intro b u v h hc he hu hv hb
   cases hr:Uf ks cs ds with
   | none=>rw [hr] at h; simp [eqM] at h
   | some r'=>
    rw [hr] at h
    simp only [eqM,lx16] at h
    obtain ⟨xs,ys,h1,h2,h3,h4,h5⟩:=Alp ks cs ds r' hr
    exact ⟨u::xs,v::ys,by rw [hc]; simp [C7,Bp,h1],by rw [he]; simp [C7,Bp,h2],by simp [Eb,hu,h3],by simp [Eb,hv,h4],by rw [Jx,hb,h5,h]⟩
  unfold Uf at h
  split at h
  ·rename_i e1 _ _; cases e1
  ·rename_i e1 e2 e3; cases e1; cases e2; cases e3; exact step _ _ _ h rfl rfl rfl rfl rfl
  ·rename_i e1 e2 e3
   cases e1; cases e2; cases e3
   split at h
   ·rename_i hk
    exact step _ _ _ h rfl rfl (by simp [okK,hk.1]) (by simp [okK,hk.2]) rfl
   ·cases h
  ·rename_i e1 e2 e3; cases e1; cases e2; cases e3; exact step _ _ _ h rfl rfl rfl rfl rfl
  ·cases h
 | [],[],_::_,r,h=>by simp [Uf] at h
 | [],_::_,_,r,h=>by simp [Uf] at h
 | _::_,[],_,r,h=>by unfold Uf at h; split at h <;> simp_all
 | _::_,_::_,[],r,h=>by unfold Uf at h; split at h <;> simp_all
def neR (z:Option AV):Option Bool→Option AV
 | some r=>some (.sc (.bool (!r)))
 | none=>z
def Bn8 (P:Program) (op:BinOp) (t:TypeId) (x y:Operand) (u v:AV):Option AV:=Da P op t x y u v
section
variable {P:Program} (t:TypeId) (x y:Operand) (cs ds:List AV)
theorem Azb {r:Bool} (h:eqA cs ds (flK P t)=some r):∃ a b,Bp (.ag cs)=some (.agg a)∧Bp (.ag ds)=some (.agg b)∧P.eqGuardType P.depth t=false∧rd P (Op.equal t (.agg a) (.agg b)) default=some r:=by
 unfold flK at h
 split at h
 all_goals first | (simp [eqA] at h; done) | skip
 all_goals
  rename_i hu
  split at h
  rotate_left
  ·simp [eqA] at h
  rename_i hg
  cases hk:HE P 10 t with
  | none=>rw [hk] at h; simp [eqA] at h
  | some ks=>
   rw [hk] at h
   obtain ⟨xs,ys,h1,h2,h3,h4,h5⟩:=Alp ks cs ds r h
   refine ⟨xs.toArray,ys.toArray,by simp [Bp,h1],by simp [Bp,h2],hg,?_⟩
   have:=RJ (P:=P) (w:=default) 9990 10 t ks hk xs ys h3 h4
   unfold mkV at this
   rw [hu] at this
   rw [←h5]
   exact this
theorem Aho (op:BinOp) (a b:Array Value) (hg:P.eqGuardType P.depth t=false):rd P (eqGuard op t x y (.agg a) (.agg b)) default=some ():=by
 unfold eqGuard
 split
 ·exact Bdm
 ·exact Bdm
 ·rfl
theorem Yg:Da P .neq t x y (.ag cs) (.ag ds)=neR (Bn8 P .neq t x y (.ag cs) (.ag ds)) (eqA cs ds (flK P t)):=by
 cases h:eqA cs ds (flK P t) with
 | none=>rfl
 | some r=>
  obtain ⟨a,b,h1,h2,h3,h4⟩:=Azb t cs ds h
  have hb:rd P (binOp .neq t (.agg a) (.agg b)) default=some (.bool (!r)):=by
   have:binOp .neq t (.agg a) (.agg b)=(do pure (.bool (!(←Op.equal t (.agg a) (.agg b)))):Sem Value):=rfl
   rw [this,Ah,h4]; rfl
  simp only [Da,h1,h2,Bh,Ah,Aho t x y .neq a b h3,lx17,hb,neR]
  rfl
theorem Yh (z:Option AV) (r:Bool):neR z (some r)=some (.sc (.bool (!r))):=rfl
theorem Yi (ks:List Kd):eqA cs ds (some ks)=Uf ks cs ds:=rfl
theorem Ael:Uf [] [] []=some true:=rfl
theorem Avf (ks:List Kd) (k:IntKind) (a b:Int):Uf (.i k::ks) (.sc (.int k a)::cs) (.sc (.int k b)::ds)=eqM (a == b) (Uf ks cs ds):=by simp [Uf]
theorem Avg (ks:List Kd) (a b:ByteArray):Uf (.s::ks) (.sc (.string a)::cs) (.sc (.string b)::ds)=eqM (a == b) (Uf ks cs ds):=rfl
theorem Yj (b r:Bool):eqM b (some r)=some (b && r):=rfl
end
end Go.SX
