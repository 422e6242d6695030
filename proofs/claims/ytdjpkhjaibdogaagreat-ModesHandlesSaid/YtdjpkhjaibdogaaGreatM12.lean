/-
  Lemmas towards ModesHandles (joined texts: SXD, SXE, SXK).
  Conditions: none.
-/
import Derived.Test.YtdjpkhjaibdogaaGreatM01
import Derived.Test.YtdjpkhjaibdogaaGreatM11
set_option linter.unusedSimpArgs false
set_option linter.unusedVariables false
set_option maxRecDepth 100000
namespace Go.SX
section
variable {P:Program} {s:St} {H:List Blk}
def Db (sz:Nat):List AV→Bool
 | []=>true
 | e::r=>decide (e.cells.length=sz) && Db sz r
theorem Sg (sz:Nat):Db sz []=true:=rfl
theorem PJ (sz:Nat) (e:AV) (r:List AV):Db sz (e::r)=(decide (e.cells.length=sz) && Db sz r):=rfl
theorem PK {sz:Nat}:∀ {es:List AV},Db sz es=true→∀ e ∈ es,e.cells.length=sz
 | [],_,e,h=>by cases h
 | a::r,h,e,he=>by
  simp only [Db,AT,AR] at h
  rcases lx59.1 he with rfl | he
  ·exact h.1
  ·exact PK h.2 e he
theorem D7 {α:Type} {f:α→AV} {sz:Nat} (h:∀ x,(f x).cells.length=sz) (l:List α):Db sz (l.map f)=true:=by
 induction l with
 | nil=>rfl
 | cons x l ih=>simp [Db,h,ih]
def ixE (H:List Blk) (m:Option Nat) (x i:AV):Option TyD→Option AV
 | some de=>match m,x,i with
  | none,.vw _ es,.sc (.int _ n)=>match (if 0≤n then es[n.toNat]? else none) with
   | some e=>if e.cells.length=de.sz then some (.vp es n.toNat 0) else none
   | none=>none
  | none,.sl id ver lo len,.sc (.int _ n)=>match AO H id ver with
   | some B=>if 0≤n∧n < (len:Int)∧B.esz=de.sz then some (.pt id ver (lo+n.toNat) 0) else none
   | none=>none
  | some m,.pt id ver k o,.sc (.int _ n)=>match AO H id ver with
   | some _=>if 0≤n∧n < (m:Int) then some (.pt id ver k (o+n.toNat * de.sz)) else none
   | none=>none
  | some m,.vp es k o,.sc (.int _ n)=>if 0≤n∧n < (m:Int) then some (.vp es k (o+n.toNat * de.sz)) else none
  | _,_,_=>none
 | none=>none
def ixD (P:Program) (H:List Blk) (x i:AV):Option TyD→Option AV
 | some d=>match d.el with
  | some el=>ixE H d.len x i (Bp P el)
  | none=>none
 | none=>none
theorem J0 (t:TypeId) (x i:Operand):AH P s (.indexAddr t x i)=ixD P s.H (ev s.T x) (ev s.T i) (Bp P t):=by
 simp only [AH,ixD,ixE]
 cases Bp P t with
 | none=>rfl
 | some d=>
  cases d.el with
  | none=>rfl
  | some el=>
   simp only
   cases Bp P el with
   | none=>rfl
   | some de=>rfl
theorem VQ (x i:AV) (ag sz by' z el len fl):ixD P H x i (some ⟨ag,sz,by',z,some el,len,fl⟩)=ixE H len x i (Bp P el):=rfl
theorem Agg {z:Bool} {es:List AV} {k:IntKind} {n:Int} {de:TyD} (h0:decide (0≤n)=true) (h1:decide (n < (es.length:Int))=true) (h2:Db de.sz es=true):
  ixE H none (.vw z es) (.sc (.int k n)) (some de)=some (.vp es n.toNat 0):=by
 simp only [AR] at h0 h1
 have hl:n.toNat < es.length:=Ai
 have:=PK h2 es[n.toNat] (lx90 hl)
 simp [ixE,h0,hl,this]
def ixB (len lo ver id:Nat) (n:Int) (de:TyD):Option Blk→Option AV
 | some B=>if 0≤n∧n < (len:Int)∧B.esz=de.sz then some (.pt id ver (lo+n.toNat) 0) else none
 | none=>none
theorem Agh (id ver lo len:Nat) (k:IntKind) (n:Int) (de:TyD):ixE H none (.sl id ver lo len) (.sc (.int k n)) (some de)=ixB len lo ver id n de (AO H id ver):=by
 simp only [ixE,ixB]
theorem VS {len lo ver id:Nat} {n:Int} {de:TyD} {B:Blk} (h0:decide (0≤n)=true) (h1:decide (n < (len:Int))=true) (h2:(B.esz == de.sz)=true):
  ixB len lo ver id n de (some B)=some (.pt id ver (lo+n.toNat) 0):=by
 simp only [AR,lx85] at h0 h1 h2
 simp [ixB,h0,h1,h2]
def At1:Option Nat→Option AV
 | some n=>some (.sc (.int .i64 n))
 | none=>none
def Agi (P:Program) (t:TypeId) (H:List Blk) (x:AV):Option TyD→Option AV
 | some d=>match d.el,d.len with
  | some _,none=>At1 (XD H x)
  | some _,some m=>some (.sc (.int .i64 m))
  | none,none=>match Cr x with
   | some a=>match B8 P (Builtin.len_ #[t] 0 #[a]) with
    | some v=>some (LM v)
    | none=>none
   | none=>none
  | _,_=>none
 | none=>none
theorem VT (t:TypeId) (x:Operand):AH P s (.call ⟨.builtin .len,#[x],#[t]⟩)=Agi P t s.H (ev s.T x) (Bp P t):=by
 simp only [AH,Agi]
 cases Bp P t with
 | none=>rfl
 | some d=>
  cases d.el <;> cases d.len <;> rfl
theorem Z0 (t:TypeId) (x:AV) (ag sz by' z el fl):Agi P t H x (some ⟨ag,sz,by',z,some el,none,fl⟩)=At1 (XD H x):=rfl
theorem Z1 (z:Bool) (es:List AV):XD H (.vw z es)=some es.length:=rfl
theorem Z2 (id ver lo len:Nat):XD H (.sl id ver lo len)=some len:=rfl
theorem Sh (n:Nat):At1 (some n)=some (.sc (.int .i64 n)):=rfl
def iaD (P:Program) (t:TypeId) (x i:AV):Option TyD→Option AV
 | some d=>match d.el,d.len with
   | some el,some m=>match Bp P el with
    | some de=>match x,i with
     | .ag cs,.sc (.int _ n)=>if 0≤n∧n < (m:Int) then Fa de cs (n.toNat * de.sz) else none
     | _,_=>none
    | none=>none
   | none,none=>match Cr x,Cr i with
    | some a,some b=>match B8 P (Instr.index t a b) with
     | some v=>some (LM v)
     | none=>none
    | _,_=>none
   | _,_=>none
 | none=>none
theorem PL (t:TypeId) (x i:Operand):AH P s (.index t x i)=iaD P t (ev s.T x) (ev s.T i) (Bp P t):=by
 simp only [AH,iaD]
 cases Bp P t with
 | none=>rfl
 | some d=>rfl
end
section
variable {P:Program} {s:St} {H:List Blk}
def plc (P:Program):List (Nat × TypeId)→Option (List (Nat × Nat))
 | []=>some []
 | (o,t)::r=>match Bp P t,plc P r with
  | some d,some l=>some ((o,d.sz)::l)
  | _,_=>none
theorem Agk:∀ l:List (Nat × TypeId),l.mapM (fun f=>(Bp P f.2).map fun df=>(f.1,df.sz))=plc P l
 | []=>rfl
 | (o,t)::r=>by
  rw [List.mapM_cons,Agk r,plc]
  simp only
  cases Bp P t with
  | none=>rfl
  | some d=>cases plc P r <;> rfl
theorem Z3:plc P []=some []:=rfl
def Ava (o:Nat):Option TyD→Option (List (Nat × Nat))→Option (List (Nat × Nat))
 | some d,some l=>some ((o,d.sz)::l)
 | _,_=>none
theorem VU (o t:Nat) (r:List (Nat × TypeId)):plc P ((o,t)::r)=Ava o (Bp P t) (plc P r):=by
 rw [plc,Ava.eq_def]
theorem Si (o:Nat) (d:TyD) (l:List (Nat × Nat)):Ava o (some d) (some l)=some ((o,d.sz)::l):=rfl
def bdS (zs:List AV) (l:List (Nat × AV)):Option (List (Nat × Nat))→Option AV
 | some places=>(F5 (fun i=>places[i]?) zs l).map AV.ag
 | none=>none
def bdE (zs:List AV) (l:List (Nat × AV)):Option TyD→Option AV
 | some de=>(F5 (fun i=>some (i * de.sz,de.sz)) zs l).map AV.ag
 | none=>none
def bdZ (P:Program) (d:TyD) (l:List (Nat × AV)):AV→Option AV
 | .ag zs=>match d.len,d.el with
  | some _,some el=>bdE zs l (Bp P el)
  | none,none=>if d.agg=true then bdS zs l (plc P d.flds) else none
  | _,_=>none
 | _=>none
def bdO (P:Program) (d:TyD) (l:List (Nat × AV)):Option Value→Option AV
 | some z=>bdZ P d l (AL z)
 | none=>none
def bdA (P:Program) (l:List (Nat × AV)):Option TyD→Option AV
 | some d=>bdO P d l d.zero
 | none=>none
theorem PM (t:TypeId) (ps:Array (Nat × Operand)):AH P s (.build t ps)=bdA P (ps.toList.map fun p=>(p.1,ev s.T p.2)) (Bp P t):=by
 simp only [AH,bdA,bdO]
 cases Bp P t with
 | none=>rfl
 | some d=>
  simp only
  cases d.zero with
  | none=>rfl
  | some z=>
   simp only [bdZ]
   generalize AL z=v
   cases v with
   | ag zs=>
    simp only
    rw [Agk]
    generalize plc P d.flds=pl
    generalize d.len=a
    generalize d.el=b
    cases a <;> cases b
    ·simp only [bdS]
     cases pl with
     | none=>rfl
     | some places=>
      simp only
      cases F5 (fun i=>places[i]?) zs (List.map (fun p=>(p.1,ev s.T p.2)) ps.toList) <;> rfl
    ·rfl
    ·rfl
    ·rename_i n el
     simp only [bdE]
     cases Bp P el with
     | none=>rfl
     | some de=>
      simp only
      cases F5 (fun i=>some (i * de.sz,de.sz)) zs (List.map (fun p=>(p.1,ev s.T p.2)) ps.toList) <;> rfl
   | _=>rfl
theorem VV (l:List (Nat × AV)) (ag sz by' z el len fl):bdA P l (some ⟨ag,sz,by',some z,el,len,fl⟩)=bdZ P ⟨ag,sz,by',some z,el,len,fl⟩ l (AL z):=rfl
theorem Agl (l:List (Nat × AV)) (zs:List AV) (sz by' z fl):bdZ P ⟨true,sz,by',z,none,none,fl⟩ l (.ag zs)=bdS zs l (plc P fl):=rfl
theorem VW (zs:List AV) (l:List (Nat × AV)) (pl:List (Nat × Nat)):bdS zs l (some pl)=(F5 (fun i=>pl[i]?) zs l).map AV.ag:=rfl
theorem Sj (pl:Nat→Option (Nat × Nat)) (cs:List AV):F5 pl cs []=some cs:=rfl
def Ak0 (pl:Nat→Option (Nat × Nat)) (cs:List AV) (v:AV) (r:List (Nat × AV)):Option (Nat × Nat)→Option (List AV)
 | some p=>if v.stor=true∧v.cells.length=p.2∧p.1+p.2≤cs.length then F5 pl (setAll cs p.1 v.cells) r else none
 | none=>none
theorem PN (pl:Nat→Option (Nat × Nat)) (cs:List AV) (i:Nat) (v:AV) (r:List (Nat × AV)):F5 pl cs ((i,v)::r)=Ak0 pl cs v r (pl i):=by
 rw [F5,Ak0.eq_def]
 cases pl i <;> rfl
theorem PO (pl:Nat→Option (Nat × Nat)) (cs:List AV) (v:AV) (r:List (Nat × AV)) (o n:Nat):Ak0 pl cs v r (some (o,n))=
  if v.stor=true∧v.cells.length=n∧o+n≤cs.length then F5 pl (setAll cs o v.cells) r else none:=rfl
theorem CI {α:Type} (cs:List α) (o:Nat):setAll cs o []=cs:=rfl
theorem Cn {α:Type} (cs:List α) (o:Nat) (v:α) (r:List α):setAll cs o (v::r)=setAll (cs.set o v) (o+1) r:=rfl
theorem Z4 (cs:List AV) (off:Nat) (vs:List AV):AV.setC (.ag cs) off vs=if off+vs.length≤cs.length then some (.ag (setAll cs off vs)) else none:=rfl
theorem Z5 (v:Value) (x:AV):AV.setC (.sc v) 0 [x]=some x:=rfl
theorem Z6 (z:Bool) (es:List AV) (x:AV):AV.setC (.vw z es) 0 [x]=some x:=rfl
theorem Z7 (a b c d:Nat) (x:AV):AV.setC (.sl a b c d) 0 [x]=some x:=rfl
theorem Sk (sz:Nat) (es:List AV):Hu sz es []=some es:=rfl
theorem PQ (sz:Nat) (es:List AV) (i:Nat) (v:AV) (r:List (Nat × AV)):Hu sz es ((i,v)::r)=
  if v.stor=true∧v.cells.length=sz∧i < es.length then Hu sz (es.set i v) r else none:=rfl
end
inductive Kd where
 | b
 | i (k:IntKind)
 | s
 deriving DecidableEq
def okK:Kd→Value→Bool
 | .b,.bool _=>true
 | .i k,.int k' _=>decide (k=k')
 | .s,.string _=>true
 | _,_=>false
def EV:List Kd→List Value→Bool
 | [],[]=>true
 | k::ks,v::vs=>okK k v && EV ks vs
 | _,_=>false
theorem J1:∀ {ks:List Kd} {vs:List Value},EV ks vs=true→vs.length=ks.length
 | [],[],_=>rfl
 | k::ks,v::vs,h=>by
  simp only [EV,AT] at h
  simp [J1 h.2]
 | [],_::_,h=>by simp [EV] at h
 | _::_,[],h=>by simp [EV] at h
theorem Mg {k:Kd} {xs:List Value} (h:EV [k] xs=true):∃ v,xs=[v]∧okK k v=true:=by
 match xs,h with
 | [v],h=>exact ⟨v,rfl,by simpa [EV] using h⟩
 | [],h=>simp [EV] at h
 | _::_::_,h=>simp [EV] at h
theorem GB:∀ {ks ks':List Kd} {vs:List Value},EV (ks++ks') vs=true→EV ks (vs.take ks.length)=true∧EV ks' (vs.drop ks.length)=true
 | [],ks',vs,h=>by simpa [EV] using h
 | k::ks,ks',[],h=>by simp [EV] at h
 | k::ks,ks',v::vs,h=>by
  simp only [lx91,EV,AT] at h
  obtain ⟨h1,h2⟩:=GB h.2
  simp only [lx53,lx92,List.drop_succ_cons,EV,AT]
  exact ⟨⟨h.1,h1⟩,h2⟩
def eqK:Kd→Value→Value→Bool
 | .b,.bool a,.bool b=>a == b
 | .i _,.int _ a,.int _ b=>a == b
 | .s,.string a,.string b=>a == b
 | _,_,_=>false
def JH:List Kd→List Value→List Value→Bool
 | k::ks,x::xs,y::ys=>eqK k x y && JH ks xs ys
 | _,_,_=>true
theorem J2:∀ (ks ks':List Kd) (xs ys:List Value),ks.length≤xs.length→ks.length≤ys.length→
  JH (ks++ks') xs ys=(JH ks (xs.take ks.length) (ys.take ks.length) && JH ks' (xs.drop ks.length) (ys.drop ks.length))
 | [],ks',xs,ys,_,_=>by simp [JH]
 | k::ks,ks',[],_,h,_=>by simp at h
 | k::ks,ks',_::_,[],_,h=>by simp at h
 | k::ks,ks',x::xs,y::ys,h,h'=>by
  simp only [lx53] at h h'
  simp only [lx91,JH,lx53,lx92,List.drop_succ_cons,J2 ks ks' xs ys (by omega) (by omega),lx1]
def PR (P:Program) (F:TypeId→Option (List Kd)):Nat→List Field→Option (List Kd)
 | _,[]=>some []
 | off,f::r=>if f.name ≠ "_"∧f.offset=off then
   match F f.type with
   | some ks=>if (P.info? f.type).map (·.size)=some ks.length∧0 < ks.length then (PR P F (off+ks.length) r).map (ks++·) else none
   | none=>none
  else none
def H7 (P:Program):Nat→TypeId→Option (List Kd)
 | 0,_=>none
 | d+1,t=>match P.underlying t with
  | some .bool=>some [.b]
  | some (.int k)=>some [.i k]
  | some .string=>some [.s]
  | some (.array n e)=>match H7 P d e with
   | some ks=>if (P.info? e).map (·.size)=some ks.length∧0 < ks.length then some (List.replicate n ks).flatten else none
   | none=>none
  | some (.struct fs)=>if P.stoodInHeld t=false then PR P (H7 P d) 0 fs.toList else none
  | _=>none
def mkV (P:Program) (t:TypeId) (vs:List Value):Value:=
 match P.underlying t with
 | some (.struct _) | some (.array _ _)=>.agg vs.toArray
 | _=>vs.headD undef
section
variable {P:Program} {w:World}
theorem Aco (t:TypeId):rd P (isAgg t) w=(P.underlying t).map fun d=>match d with | .struct _ | .array _ _=>true | _=>false:=by
 unfold isAgg
 rw [Ak,AF]
 cases P.underlying t with
 | none=>rfl
 | some d=>cases d <;> rfl
theorem Mh {d:Nat} {t:TypeId} {ks:List Kd} (hk:H7 P d t=some ks) (hs:(P.info? t).map (·.size)=some ks.length) {cs:List Value} {off:Nat} (h:off+ks.length≤cs.length):
  rd P (part t cs.toArray off) w=some (mkV P t ((cs.drop off).take ks.length)):=by
 unfold part
 rw [Ak,Aco]
 cases d with
 | zero=>simp [H7] at hk
 | succ d=>
  have one:ks.length=1→rd P (match cs.toArray[off]? with | some v=>(pure v:Sem Value) | none=>stuck "part: no such cell") w=some (((cs.drop off).take ks.length).headD undef):=by
   intro h1
   have hlt:off < cs.length:=Ai
   rw [h1,lx75 hlt]
   simp only [lx39,lx51 hlt,An,lx92,List.headD_cons]
  have agg:rd P (do pure (.agg (cs.toArray.extract off (off+(←sizeOf t)))):Sem Value) w=some (.agg ((cs.drop off).take ks.length).toArray):=by
   rw [Ak,MU,hs]
   simp only [lx17,An]
   congr 2
   simp [List.extract]
  cases hu:P.underlying t with
  | none=>simp [H7,hu] at hk
  | some q=>
   unfold H7 at hk
   rw [hu] at hk
   unfold mkV
   rw [hu]
   cases q <;> simp only [lx34,lx17,reduceCtorEq] at hk ⊢
   case bool=>cases hk; exact one rfl
   case int=>cases hk; exact one rfl
   case string=>cases hk; exact one rfl
   case array=>exact agg
   case struct=>exact agg
theorem N0 {d D:Nat} (ih:∀ (t:TypeId) (ks:List Kd),H7 P D t=some ks→∀ xs ys,EV ks xs=true→EV ks ys=true→rd P (Op.equalIn (d+D) t (mkV P t xs) (mkV P t ys)) w=some (JH ks xs ys))
  (cs ds:List Value) {body:Field→Option Bool × Unit→Sem (ForInStep (Option Bool × Unit))} {post:Option Bool × Unit→Sem Bool} (hp1:post (none,())=pure true) (hp2:post (some false,())=pure false)
  (hb:∀ (f:Field) s,f.name ≠ "_"→body f s=do
     let a ←part f.type cs.toArray f.offset
     let b ←part f.type ds.toArray f.offset
     let e ←Op.equalIn (d+D) f.type a b
     if (!e)=true then pure (ForInStep.done (some false,())) else pure (ForInStep.yield (none,()))):∀ (fs:List Field) (off:Nat) (ks:List Kd),PR P (H7 P D) off fs=some ks→EV ks (cs.drop off)=true→EV ks (ds.drop off)=true→
  rd P (forIn fs (none,()) body >>= post) w=some (JH ks (cs.drop off) (ds.drop off))
 | [],off,ks,h,h1,h2=>by
  simp only [PR,lx16] at h
  subst h
  rw [List.forIn_nil,Ak,An,lx17,hp1]
  rfl
 | f::fs,off,ks,h,h1,h2=>by
  simp only [PR] at h
  split at h
  rotate_left
  ·cases h
  rename_i hf
  obtain ⟨hf1,rfl⟩:=hf
  split at h
  rotate_left
  ·cases h
  rename_i k1 hk1
  split at h
  rotate_left
  ·cases h
  rename_i hs
  simp only [lx24] at h
  obtain ⟨k2,hk2,rfl⟩:=h
  have l1:=J1 h1
  have l2:=J1 h2
  simp only [lx5,lx93] at l1 l2
  obtain ⟨a1,a2⟩:=GB h1
  obtain ⟨b1,b2⟩:=GB h2
  obtain ⟨hs,hpos⟩:=hs
  rw [J2 k1 k2 _ _ (by simp; omega) (by simp; omega)]
  rw [List.drop_drop] at a2 b2
  have p1:=Mh (w:=w) hk1 hs (cs:=cs) (off:=f.offset) (by omega)
  have p2:=Mh (w:=w) hk1 hs (cs:=ds) (off:=f.offset) (by omega)
  have p3:=ih f.type k1 hk1 _ _ a1 b1
  have hrec:=N0 ih cs ds hp1 hp2 hb fs (f.offset+k1.length) k2 hk2 a2 b2
  rw [Ak] at hrec
  rw [Ak,List.forIn_cons,Ak,hb f _ hf1]
  simp only [Ak,p1,p2,p3,lx17]
  rw [List.drop_drop,List.drop_drop]
  cases he:JH k1 (List.take k1.length (List.drop f.offset cs)) (List.take k1.length (List.drop f.offset ds)) with
  | true=>
   exact Aps
  | false=>
   simp only [JM,lx6,An,lx17,Lg,hp2]
theorem PS {d D:Nat} {e:TypeId} {ks:List Kd} (hk:H7 P D e=some ks) (hs:(P.info? e).map (·.size)=some ks.length) (hpos:0 < ks.length)
  (ih:∀ xs ys,EV ks xs=true→EV ks ys=true→rd P (Op.equalIn (d+D) e (mkV P e xs) (mkV P e ys)) w=some (JH ks xs ys))
  (cs ds:List Value) {body:Nat→Option Bool × Unit→Sem (ForInStep (Option Bool × Unit))} {post:Option Bool × Unit→Sem Bool} (hp1:post (none,())=pure true) (hp2:post (some false,())=pure false)
  (hb:∀ (i:Nat) s,body i s=do
     let a ←part e cs.toArray (i * ks.length)
     let b ←part e ds.toArray (i * ks.length)
     let e ←Op.equalIn (d+D) e a b
     if (!e)=true then pure (ForInStep.done (some false,())) else pure (ForInStep.yield (none,()))):∀ (n i:Nat),EV (List.replicate n ks).flatten (cs.drop (i * ks.length))=true→EV (List.replicate n ks).flatten (ds.drop (i * ks.length))=true→
  rd P (forIn (List.range' i n) (none,()) body >>= post) w=some (JH (List.replicate n ks).flatten (cs.drop (i * ks.length)) (ds.drop (i * ks.length)))
 | 0,i,h1,h2=>by
  rw [List.range'_zero,List.forIn_nil,Ak,An,lx17,hp1]
  rfl
 | n+1,i,h1,h2=>by
  rw [List.replicate_succ,List.flatten_cons] at h1 h2 ⊢
  have l1:=J1 h1
  have l2:=J1 h2
  simp only [lx5,lx93] at l1 l2
  obtain ⟨a1,a2⟩:=GB h1
  obtain ⟨b1,b2⟩:=GB h2
  rw [J2 ks _ _ _ (by simp; omega) (by simp; omega)]
  rw [List.drop_drop] at a2 b2
  have em:i * ks.length+ks.length=(i+1) * ks.length:=by rw [Hb,Nat.one_mul]
  rw [em] at a2 b2
  have p1:=Mh (w:=w) hk hs (cs:=cs) (off:=i * ks.length) (by omega)
  have p2:=Mh (w:=w) hk hs (cs:=ds) (off:=i * ks.length) (by omega)
  have p3:=ih _ _ a1 b1
  have hrec:=PS hk hs hpos ih cs ds hp1 hp2 hb n (i+1) a2 b2
  rw [Ak] at hrec
  rw [Ak,List.range'_succ,List.forIn_cons,Ak,hb]
  simp only [Ak,p1,p2,p3,lx17]
  rw [List.drop_drop,List.drop_drop,em]
  cases he:JH ks (List.take ks.length (List.drop (i * ks.length) cs)) (List.take ks.length (List.drop (i * ks.length) ds)) with
  | true=>
   exact Aps
  | false=>
   simp only [JM,lx6,An,lx17,Lg,hp2]
theorem PT (d:Nat):∀ (D:Nat) (t:TypeId) (ks:List Kd),H7 P D t=some ks→∀ xs ys,EV ks xs=true→EV ks ys=true→rd P (Op.equalIn (d+D) t (mkV P t xs) (mkV P t ys)) w=some (JH ks xs ys)
 | 0,t,ks,h,_,_,_,_=>by simp [H7] at h
 | D+1,t,ks,h,xs,ys,hx,hy=>by
  have ih:=PT d D
  have hd:d+(D+1)=(d+D)+1:=Ai
  unfold H7 at h
  rw [hd]
  unfold mkV
  unfold Op.equalIn
  rw [Ak,AF]
  cases hu:P.underlying t with
  | none=>rw [hu] at h; cases h
  | some q=>
   rw [hu] at h
   cases q <;> simp only [reduceCtorEq] at h
   case bool=>
    exact Awv
   case int k=>
    cases h
    obtain ⟨a,rfl,ha⟩:=Mg hx
    obtain ⟨b,rfl,hb⟩:=Mg hy
    cases a <;> simp only [okK,Dt,AR] at ha
    cases b <;> simp only [okK,Dt,AR] at hb
    subst ha; subst hb
    simp [An,JH,eqK]
   case string=>
    exact Awv
   case array n e=>
    split at h
    rotate_left
    ·cases h
    rename_i k1 hk1
    split at h
    rotate_left
    ·cases h
    rename_i hs
    cases h
    simp only [lx17]
    rw [Ak,MU,hs.1]
    simp only [lx17,Std.Legacy.Range.forIn_eq_forIn_range',Std.Legacy.Range.size,Nat.sub_zero,Nat.add_sub_cancel,Nat.div_one]
    refine (PS (w:=w) (d:=d) hk1 hs.1 hs.2 (ih e k1 hk1) xs ys rfl rfl (fun i s=>rfl) n 0 (by simpa using hx) (by simpa using hy)).trans ?_
    simp
   case struct fs=>
    split at h
    rotate_left
    ·cases h
    rename_i hs
    simp only [lx17]
    rw [Ak,Ht]
    simp only [lx17,hs,Dt,lx7]
    rw [←Array.forIn_toList]
    refine (N0 (w:=w) (d:=d) ih xs ys rfl rfl (fun f s hf=>?_) fs.toList 0 ks h (by simpa using hx) (by simpa using hy)).trans ?_
    ·simp only [hf,ne_eq,not_false_eq_true,lx6]
    ·simp
end
def flK (P:Program) (t:TypeId):Option (List Kd):=
 match P.underlying t with
 | some (.struct _) | some (.array _ _)=>if P.eqGuardType P.depth t=false then H7 P 10 t else none
 | _=>none
def eqM (b:Bool):Option Bool→Option Bool
 | some r=>some (b && r)
 | none=>none
def Sl:List Kd→List AV→List AV→Option Bool
 | [],[],[]=>some true
 | .b::ks,.sc (.bool a)::cs,.sc (.bool b)::ds=>eqM (a == b) (Sl ks cs ds)
 | .i k::ks,.sc (.int k1 a)::cs,.sc (.int k2 b)::ds=>if k=k1∧k=k2 then eqM (a == b) (Sl ks cs ds) else none
 | .s::ks,.sc (.string a)::cs,.sc (.string b)::ds=>eqM (a == b) (Sl ks cs ds)
 | _,_,_=>none
def eqA (cs ds:List AV):Option (List Kd)→Option Bool
 | some ks=>Sl ks cs ds
 | none=>none
theorem Agm:∀ (ks:List Kd) (cs ds:List AV) (r:Bool),Sl ks cs ds=some r→∃ xs ys,DA cs=some xs∧DA ds=some ys∧EV ks xs=true∧EV ks ys=true∧JH ks xs ys=r
 | [],[],[],r,h=>by simp only [Sl,lx16] at h; exact ⟨[],[],rfl,rfl,rfl,rfl,h⟩
 | k::ks,c::cs,e::ds,r,h=>by
  have step:∀ (b:Bool) (u v:Value),eqM b (Sl ks cs ds)=some r→c=.sc u→e=.sc v→okK k u=true→okK k v=true→eqK k u v=b→
    ∃ xs ys,DA (c::cs)=some xs∧DA (e::ds)=some ys∧EV (k::ks) xs=true∧EV (k::ks) ys=true∧JH (k::ks) xs ys=r:=by
   intro b u v h hc he hu hv hb
   cases hr:Sl ks cs ds with
   | none=>rw [hr] at h; simp [eqM] at h
   | some r'=>
    rw [hr] at h
    simp only [eqM,lx16] at h
    obtain ⟨xs,ys,h1,h2,h3,h4,h5⟩:=Agm ks cs ds r' hr
    exact ⟨u::xs,v::ys,by rw [hc]; simp [DA,Cr,h1],by rw [he]; simp [DA,Cr,h2],by simp [EV,hu,h3],by simp [EV,hv,h4],by rw [JH,hb,h5,h]⟩
  unfold Sl at h
  split at h
  ·rename_i e1 _ _; cases e1
  ·rename_i e1 e2 e3; cases e1; cases e2; cases e3; exact step _ _ _ h rfl rfl rfl rfl rfl
  ·rename_i e1 e2 e3
   cases e1; cases e2; cases e3
   split at h
   ·rename_i hk
    exact step _ _ _ h rfl rfl (by simp [okK,hk.1]) (by simp [okK,hk.2]) rfl
   ·cases h
  ·rename_i e1 e2 e3; cases e1; cases e2; cases e3; exact step _ _ _ h rfl rfl rfl rfl rfl
  ·cases h
 | [],[],_::_,r,h=>by simp [Sl] at h
 | [],_::_,_,r,h=>by simp [Sl] at h
 | _::_,[],_,r,h=>by unfold Sl at h; split at h <;> simp_all
 | _::_,_::_,[],r,h=>by unfold Sl at h; split at h <;> simp_all
def neR (z:Option AV):Option Bool→Option AV
 | some r=>some (.sc (.bool (!r)))
 | none=>z
def Bf6 (P:Program) (op:BinOp) (t:TypeId) (x y:Operand) (u v:AV):Option AV:=Ff P op t x y u v
section
variable {P:Program} (t:TypeId) (x y:Operand) (cs ds:List AV)
theorem At3 {r:Bool} (h:eqA cs ds (flK P t)=some r):∃ a b,Cr (.ag cs)=some (.agg a)∧Cr (.ag ds)=some (.agg b)∧P.eqGuardType P.depth t=false∧rd P (Op.equal t (.agg a) (.agg b)) default=some r:=by
 unfold flK at h
 split at h
 all_goals first | (simp [eqA] at h; done) | skip
 all_goals
  rename_i hu
  split at h
  rotate_left
  ·simp [eqA] at h
  rename_i hg
  cases hk:H7 P 10 t with
  | none=>rw [hk] at h; simp [eqA] at h
  | some ks=>
   rw [hk] at h
   obtain ⟨xs,ys,h1,h2,h3,h4,h5⟩:=Agm ks cs ds r h
   refine ⟨xs.toArray,ys.toArray,by simp [Cr,h1],by simp [Cr,h2],hg,?_⟩
   have:=PT (P:=P) (w:=default) 9990 10 t ks hk xs ys h3 h4
   unfold mkV at this
   rw [hu] at this
   rw [←h5]
   exact this
theorem Acp (op:BinOp) (a b:Array Value) (hg:P.eqGuardType P.depth t=false):rd P (eqGuard op t x y (.agg a) (.agg b)) default=some ():=by
 unfold eqGuard
 split
 ·exact Apb
 ·exact Apb
 ·rfl
theorem VX:Ff P .neq t x y (.ag cs) (.ag ds)=neR (Bf6 P .neq t x y (.ag cs) (.ag ds)) (eqA cs ds (flK P t)):=by
 cases h:eqA cs ds (flK P t) with
 | none=>rfl
 | some r=>
  obtain ⟨a,b,h1,h2,h3,h4⟩:=At3 t cs ds h
  have hb:rd P (binOp .neq t (.agg a) (.agg b)) default=some (.bool (!r)):=by
   have:binOp .neq t (.agg a) (.agg b)=(do pure (.bool (!(←Op.equal t (.agg a) (.agg b)))):Sem Value):=rfl
   rw [this,Ak,h4]; rfl
  simp only [Ff,h1,h2,B8,Ak,Acp t x y .neq a b h3,lx17,hb,neR]
  rfl
theorem VY (z:Option AV) (r:Bool):neR z (some r)=some (.sc (.bool (!r))):=rfl
theorem VZ (ks:List Kd):eqA cs ds (some ks)=Sl ks cs ds:=rfl
theorem Z8:Sl [] [] []=some true:=rfl
theorem Aq9 (ks:List Kd) (k:IntKind) (a b:Int):Sl (.i k::ks) (.sc (.int k a)::cs) (.sc (.int k b)::ds)=eqM (a == b) (Sl ks cs ds):=by simp [Sl]
theorem Aqa (ks:List Kd) (a b:ByteArray):Sl (.s::ks) (.sc (.string a)::cs) (.sc (.string b)::ds)=eqM (a == b) (Sl ks cs ds):=rfl
theorem V0 (b r:Bool):eqM b (some r)=some (b && r):=rfl
end
end Go.SX
