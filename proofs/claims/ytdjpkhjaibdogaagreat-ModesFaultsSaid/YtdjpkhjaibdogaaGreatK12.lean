/-
  Lemmas towards ModesFaults (joined texts: SXD, SXE, SXK).
  Conditions: none.
-/
import Derived.Test.YtdjpkhjaibdogaaGreatK01
import Derived.Test.YtdjpkhjaibdogaaGreatK11
set_option linter.unusedSimpArgs false
set_option linter.unusedVariables false
set_option maxRecDepth 100000
namespace Go.SX
section
variable {P:Program} {s:St} {H:List Blk}
def CY (sz:Nat):List AV→Bool
 | []=>true
 | e::r=>decide (e.cells.length=sz) && CY sz r
theorem Rw (sz:Nat):CY sz []=true:=rfl
theorem O8 (sz:Nat) (e:AV) (r:List AV):CY sz (e::r)=(decide (e.cells.length=sz) && CY sz r):=rfl
theorem O9 {sz:Nat}:∀ {es:List AV},CY sz es=true→∀ e ∈ es,e.cells.length=sz
 | [],_,e,h=>by cases h
 | a::r,h,e,he=>by
  simp only [CY,AH,AR] at h
  rcases lx59.1 he with rfl | he
  ·exact h.1
  ·exact O9 h.2 e he
theorem Dy {α:Type} {f:α→AV} {sz:Nat} (h:∀ x,(f x).cells.length=sz) (l:List α):CY sz (l.map f)=true:=by
 induction l with
 | nil=>rfl
 | cons x l ih=>simp [CY,h,ih]
def ixE (H:List Blk) (m:Option Nat) (x i:AV):Option TyD→Option AV
 | some de=>match m,x,i with
  | none,.vw _ es,.sc (.int _ n)=>match (if 0≤n then es[n.toNat]? else none) with
   | some e=>if e.cells.length=de.sz then some (.vp es n.toNat 0) else none
   | none=>none
  | none,.sl id ver lo len,.sc (.int _ n)=>match AE H id ver with
   | some B=>if 0≤n∧n < (len:Int)∧B.esz=de.sz then some (.pt id ver (lo+n.toNat) 0) else none
   | none=>none
  | some m,.pt id ver k o,.sc (.int _ n)=>match AE H id ver with
   | some _=>if 0≤n∧n < (m:Int) then some (.pt id ver k (o+n.toNat * de.sz)) else none
   | none=>none
  | some m,.vp es k o,.sc (.int _ n)=>if 0≤n∧n < (m:Int) then some (.vp es k (o+n.toNat * de.sz)) else none
  | _,_,_=>none
 | none=>none
def ixD (P:Program) (H:List Blk) (x i:AV):Option TyD→Option AV
 | some d=>match d.el with
  | some el=>ixE H d.len x i (AY P el)
  | none=>none
 | none=>none
theorem Jj (t:TypeId) (x i:Operand):Av P s (.indexAddr t x i)=ixD P s.H (ev s.T x) (ev s.T i) (AY P t):=by
 simp only [Av,ixD,ixE]
 cases AY P t with
 | none=>rfl
 | some d=>
  cases d.el with
  | none=>rfl
  | some el=>
   simp only
   cases AY P el with
   | none=>rfl
   | some de=>rfl
theorem U9 (x i:AV) (ag sz by' z el len fl):ixD P H x i (some ⟨ag,sz,by',z,some el,len,fl⟩)=ixE H len x i (AY P el):=rfl
theorem Afi {z:Bool} {es:List AV} {k:IntKind} {n:Int} {de:TyD} (h0:decide (0≤n)=true) (h1:decide (n < (es.length:Int))=true) (h2:CY de.sz es=true):
  ixE H none (.vw z es) (.sc (.int k n)) (some de)=some (.vp es n.toNat 0):=by
 simp only [AR] at h0 h1
 have hl:n.toNat < es.length:=Ah
 have:=O9 h2 es[n.toNat] (lx90 hl)
 simp [ixE,h0,hl,this]
def ixB (len lo ver id:Nat) (n:Int) (de:TyD):Option Blk→Option AV
 | some B=>if 0≤n∧n < (len:Int)∧B.esz=de.sz then some (.pt id ver (lo+n.toNat) 0) else none
 | none=>none
theorem Afj (id ver lo len:Nat) (k:IntKind) (n:Int) (de:TyD):ixE H none (.sl id ver lo len) (.sc (.int k n)) (some de)=ixB len lo ver id n de (AE H id ver):=by
 simp only [ixE,ixB]
theorem Va {len lo ver id:Nat} {n:Int} {de:TyD} {B:Blk} (h0:decide (0≤n)=true) (h1:decide (n < (len:Int))=true) (h2:(B.esz == de.sz)=true):
  ixB len lo ver id n de (some B)=some (.pt id ver (lo+n.toNat) 0):=by
 simp only [AR,lx85] at h0 h1 h2
 simp [ixB,h0,h1,h2]
def Arb:Option Nat→Option AV
 | some n=>some (.sc (.int .i64 n))
 | none=>none
def Afk (P:Program) (t:TypeId) (H:List Blk) (x:AV):Option TyD→Option AV
 | some d=>match d.el,d.len with
  | some _,none=>Arb (W4 H x)
  | some _,some m=>some (.sc (.int .i64 m))
  | none,none=>match BZ x with
   | some a=>match Bp P (Builtin.len_ #[t] 0 #[a]) with
    | some v=>some (KY v)
    | none=>none
   | none=>none
  | _,_=>none
 | none=>none
theorem Vb (t:TypeId) (x:Operand):Av P s (.call ⟨.builtin .len,#[x],#[t]⟩)=Afk P t s.H (ev s.T x) (AY P t):=by
 simp only [Av,Afk]
 cases AY P t with
 | none=>rfl
 | some d=>
  cases d.el <;> cases d.len <;> rfl
theorem Zj (t:TypeId) (x:AV) (ag sz by' z el fl):Afk P t H x (some ⟨ag,sz,by',z,some el,none,fl⟩)=Arb (W4 H x):=rfl
theorem Zk (z:Bool) (es:List AV):W4 H (.vw z es)=some es.length:=rfl
theorem Zl (id ver lo len:Nat):W4 H (.sl id ver lo len)=some len:=rfl
theorem Rx (n:Nat):Arb (some n)=some (.sc (.int .i64 n)):=rfl
def iaD (P:Program) (t:TypeId) (x i:AV):Option TyD→Option AV
 | some d=>match d.el,d.len with
   | some el,some m=>match AY P el with
    | some de=>match x,i with
     | .ag cs,.sc (.int _ n)=>if 0≤n∧n < (m:Int) then EN de cs (n.toNat * de.sz) else none
     | _,_=>none
    | none=>none
   | none,none=>match BZ x,BZ i with
    | some a,some b=>match Bp P (Instr.index t a b) with
     | some v=>some (KY v)
     | none=>none
    | _,_=>none
   | _,_=>none
 | none=>none
theorem Pa (t:TypeId) (x i:Operand):Av P s (.index t x i)=iaD P t (ev s.T x) (ev s.T i) (AY P t):=by
 simp only [Av,iaD]
 cases AY P t with
 | none=>rfl
 | some d=>rfl
end
section
variable {P:Program} {s:St} {H:List Blk}
def plc (P:Program):List (Nat × TypeId)→Option (List (Nat × Nat))
 | []=>some []
 | (o,t)::r=>match AY P t,plc P r with
  | some d,some l=>some ((o,d.sz)::l)
  | _,_=>none
theorem Afm:∀ l:List (Nat × TypeId),l.mapM (fun f=>(AY P f.2).map fun df=>(f.1,df.sz))=plc P l
 | []=>rfl
 | (o,t)::r=>by
  rw [List.mapM_cons,Afm r,plc]
  simp only
  cases AY P t with
  | none=>rfl
  | some d=>cases plc P r <;> rfl
theorem Zm:plc P []=some []:=rfl
def Atl (o:Nat):Option TyD→Option (List (Nat × Nat))→Option (List (Nat × Nat))
 | some d,some l=>some ((o,d.sz)::l)
 | _,_=>none
theorem Vd (o t:Nat) (r:List (Nat × TypeId)):plc P ((o,t)::r)=Atl o (AY P t) (plc P r):=by
 rw [plc,Atl.eq_def]
theorem Ry (o:Nat) (d:TyD) (l:List (Nat × Nat)):Atl o (some d) (some l)=some ((o,d.sz)::l):=rfl
def bdS (zs:List AV) (l:List (Nat × AV)):Option (List (Nat × Nat))→Option AV
 | some places=>(Fo (fun i=>places[i]?) zs l).map AV.ag
 | none=>none
def bdE (zs:List AV) (l:List (Nat × AV)):Option TyD→Option AV
 | some de=>(Fo (fun i=>some (i * de.sz,de.sz)) zs l).map AV.ag
 | none=>none
def bdZ (P:Program) (d:TyD) (l:List (Nat × AV)):AV→Option AV
 | .ag zs=>match d.len,d.el with
  | some _,some el=>bdE zs l (AY P el)
  | none,none=>if d.agg=true then bdS zs l (plc P d.flds) else none
  | _,_=>none
 | _=>none
def bdO (P:Program) (d:TyD) (l:List (Nat × AV)):Option Value→Option AV
 | some z=>bdZ P d l (Az z)
 | none=>none
def bdA (P:Program) (l:List (Nat × AV)):Option TyD→Option AV
 | some d=>bdO P d l d.zero
 | none=>none
theorem Pb (t:TypeId) (ps:Array (Nat × Operand)):Av P s (.build t ps)=bdA P (ps.toList.map fun p=>(p.1,ev s.T p.2)) (AY P t):=by
 simp only [Av,bdA,bdO]
 cases AY P t with
 | none=>rfl
 | some d=>
  simp only
  cases d.zero with
  | none=>rfl
  | some z=>
   simp only [bdZ]
   generalize Az z=v
   cases v with
   | ag zs=>
    simp only
    rw [Afm]
    generalize plc P d.flds=pl
    generalize d.len=a
    generalize d.el=b
    cases a <;> cases b
    ·simp only [bdS]
     cases pl with
     | none=>rfl
     | some places=>
      simp only
      cases Fo (fun i=>places[i]?) zs (List.map (fun p=>(p.1,ev s.T p.2)) ps.toList) <;> rfl
    ·rfl
    ·rfl
    ·rename_i n el
     simp only [bdE]
     cases AY P el with
     | none=>rfl
     | some de=>
      simp only
      cases Fo (fun i=>some (i * de.sz,de.sz)) zs (List.map (fun p=>(p.1,ev s.T p.2)) ps.toList) <;> rfl
   | _=>rfl
theorem Ve (l:List (Nat × AV)) (ag sz by' z el len fl):bdA P l (some ⟨ag,sz,by',some z,el,len,fl⟩)=bdZ P ⟨ag,sz,by',some z,el,len,fl⟩ l (Az z):=rfl
theorem Afn (l:List (Nat × AV)) (zs:List AV) (sz by' z fl):bdZ P ⟨true,sz,by',z,none,none,fl⟩ l (.ag zs)=bdS zs l (plc P fl):=rfl
theorem Vf (zs:List AV) (l:List (Nat × AV)) (pl:List (Nat × Nat)):bdS zs l (some pl)=(Fo (fun i=>pl[i]?) zs l).map AV.ag:=rfl
theorem Rz (pl:Nat→Option (Nat × Nat)) (cs:List AV):Fo pl cs []=some cs:=rfl
def Ajl (pl:Nat→Option (Nat × Nat)) (cs:List AV) (v:AV) (r:List (Nat × AV)):Option (Nat × Nat)→Option (List AV)
 | some p=>if v.stor=true∧v.cells.length=p.2∧p.1+p.2≤cs.length then Fo pl (setAll cs p.1 v.cells) r else none
 | none=>none
theorem Pc (pl:Nat→Option (Nat × Nat)) (cs:List AV) (i:Nat) (v:AV) (r:List (Nat × AV)):Fo pl cs ((i,v)::r)=Ajl pl cs v r (pl i):=by
 rw [Fo,Ajl.eq_def]
 cases pl i <;> rfl
theorem Pd (pl:Nat→Option (Nat × Nat)) (cs:List AV) (v:AV) (r:List (Nat × AV)) (o n:Nat):Ajl pl cs v r (some (o,n))=
  if v.stor=true∧v.cells.length=n∧o+n≤cs.length then Fo pl (setAll cs o v.cells) r else none:=rfl
theorem CQ {α:Type} (cs:List α) (o:Nat):setAll cs o []=cs:=rfl
theorem Cs {α:Type} (cs:List α) (o:Nat) (v:α) (r:List α):setAll cs o (v::r)=setAll (cs.set o v) (o+1) r:=rfl
theorem Zn (cs:List AV) (off:Nat) (vs:List AV):AV.setC (.ag cs) off vs=if off+vs.length≤cs.length then some (.ag (setAll cs off vs)) else none:=rfl
theorem Zo (v:Value) (x:AV):AV.setC (.sc v) 0 [x]=some x:=rfl
theorem Zp (z:Bool) (es:List AV) (x:AV):AV.setC (.vw z es) 0 [x]=some x:=rfl
theorem Zq (a b c d:Nat) (x:AV):AV.setC (.sl a b c d) 0 [x]=some x:=rfl
theorem RA (sz:Nat) (es:List AV):G0 sz es []=some es:=rfl
theorem Pf (sz:Nat) (es:List AV) (i:Nat) (v:AV) (r:List (Nat × AV)):G0 sz es ((i,v)::r)=
  if v.stor=true∧v.cells.length=sz∧i < es.length then G0 sz (es.set i v) r else none:=rfl
end
inductive Kd where
 | b
 | i (k:IntKind)
 | s
 deriving DecidableEq
def okK:Kd→Value→Bool
 | .b,.bool _=>true
 | .i k,.int k' _=>decide (k=k')
 | .s,.string _=>true
 | _,_=>false
def Ec:List Kd→List Value→Bool
 | [],[]=>true
 | k::ks,v::vs=>okK k v && Ec ks vs
 | _,_=>false
theorem Jk:∀ {ks:List Kd} {vs:List Value},Ec ks vs=true→vs.length=ks.length
 | [],[],_=>rfl
 | k::ks,v::vs,h=>by
  simp only [Ec,AH] at h
  simp [Jk h.2]
 | [],_::_,h=>by simp [Ec] at h
 | _::_,[],h=>by simp [Ec] at h
theorem Lw {k:Kd} {xs:List Value} (h:Ec [k] xs=true):∃ v,xs=[v]∧okK k v=true:=by
 match xs,h with
 | [v],h=>exact ⟨v,rfl,by simpa [Ec] using h⟩
 | [],h=>simp [Ec] at h
 | _::_::_,h=>simp [Ec] at h
theorem Gi:∀ {ks ks':List Kd} {vs:List Value},Ec (ks++ks') vs=true→Ec ks (vs.take ks.length)=true∧Ec ks' (vs.drop ks.length)=true
 | [],ks',vs,h=>by simpa [Ec] using h
 | k::ks,ks',[],h=>by simp [Ec] at h
 | k::ks,ks',v::vs,h=>by
  simp only [lx91,Ec,AH] at h
  obtain ⟨h1,h2⟩:=Gi h.2
  simp only [lx53,lx92,List.drop_succ_cons,Ec,AH]
  exact ⟨⟨h.1,h1⟩,h2⟩
def eqK:Kd→Value→Value→Bool
 | .b,.bool a,.bool b=>a == b
 | .i _,.int _ a,.int _ b=>a == b
 | .s,.string a,.string b=>a == b
 | _,_,_=>false
def I1:List Kd→List Value→List Value→Bool
 | k::ks,x::xs,y::ys=>eqK k x y && I1 ks xs ys
 | _,_,_=>true
theorem Jl:∀ (ks ks':List Kd) (xs ys:List Value),ks.length≤xs.length→ks.length≤ys.length→
  I1 (ks++ks') xs ys=(I1 ks (xs.take ks.length) (ys.take ks.length) && I1 ks' (xs.drop ks.length) (ys.drop ks.length))
 | [],ks',xs,ys,_,_=>by simp [I1]
 | k::ks,ks',[],_,h,_=>by simp at h
 | k::ks,ks',_::_,[],_,h=>by simp at h
 | k::ks,ks',x::xs,y::ys,h,h'=>by
  simp only [lx53] at h h'
  simp only [lx91,I1,lx53,lx92,List.drop_succ_cons,Jl ks ks' xs ys (by omega) (by omega),lx1]
def Pg (P:Program) (F:TypeId→Option (List Kd)):Nat→List Field→Option (List Kd)
 | _,[]=>some []
 | off,f::r=>if f.name ≠ "_"∧f.offset=off then
   match F f.type with
   | some ks=>if (P.info? f.type).map (·.size)=some ks.length∧0 < ks.length then (Pg P F (off+ks.length) r).map (ks++·) else none
   | none=>none
  else none
def Hp (P:Program):Nat→TypeId→Option (List Kd)
 | 0,_=>none
 | d+1,t=>match P.underlying t with
  | some .bool=>some [.b]
  | some (.int k)=>some [.i k]
  | some .string=>some [.s]
  | some (.array n e)=>match Hp P d e with
   | some ks=>if (P.info? e).map (·.size)=some ks.length∧0 < ks.length then some (List.replicate n ks).flatten else none
   | none=>none
  | some (.struct fs)=>if P.stoodInHeld t=false then Pg P (Hp P d) 0 fs.toList else none
  | _=>none
def mkV (P:Program) (t:TypeId) (vs:List Value):Value:=
 match P.underlying t with
 | some (.struct _) | some (.array _ _)=>.agg vs.toArray
 | _=>vs.headD undef
section
variable {P:Program} {w:World}
theorem Abg (t:TypeId):rd P (isAgg t) w=(P.underlying t).map fun d=>match d with | .struct _ | .array _ _=>true | _=>false:=by
 unfold isAgg
 rw [Ai,Ar]
 cases P.underlying t with
 | none=>rfl
 | some d=>cases d <;> rfl
theorem Lx {d:Nat} {t:TypeId} {ks:List Kd} (hk:Hp P d t=some ks) (hs:(P.info? t).map (·.size)=some ks.length) {cs:List Value} {off:Nat} (h:off+ks.length≤cs.length):
  rd P (part t cs.toArray off) w=some (mkV P t ((cs.drop off).take ks.length)):=by
 unfold part
 rw [Ai,Abg]
 cases d with
 | zero=>simp [Hp] at hk
 | succ d=>
  have one:ks.length=1→rd P (match cs.toArray[off]? with | some v=>(pure v:Sem Value) | none=>stuck "part: no such cell") w=some (((cs.drop off).take ks.length).headD undef):=by
   intro h1
   have hlt:off < cs.length:=Ah
   rw [h1,lx75 hlt]
   simp only [lx39,lx51 hlt,Ak,lx92,List.headD_cons]
  have agg:rd P (do pure (.agg (cs.toArray.extract off (off+(←sizeOf t)))):Sem Value) w=some (.agg ((cs.drop off).take ks.length).toArray):=by
   rw [Ai,Md,hs]
   simp only [lx17,Ak]
   congr 2
   simp [List.extract]
  cases hu:P.underlying t with
  | none=>simp [Hp,hu] at hk
  | some q=>
   unfold Hp at hk
   rw [hu] at hk
   unfold mkV
   rw [hu]
   cases q <;> simp only [lx34,lx17,reduceCtorEq] at hk ⊢
   case bool=>cases hk; exact one rfl
   case int=>cases hk; exact one rfl
   case string=>cases hk; exact one rfl
   case array=>exact agg
   case struct=>exact agg
theorem Ni {d D:Nat} (ih:∀ (t:TypeId) (ks:List Kd),Hp P D t=some ks→∀ xs ys,Ec ks xs=true→Ec ks ys=true→rd P (Op.equalIn (d+D) t (mkV P t xs) (mkV P t ys)) w=some (I1 ks xs ys))
  (cs ds:List Value) {body:Field→Option Bool × Unit→Sem (ForInStep (Option Bool × Unit))} {post:Option Bool × Unit→Sem Bool} (hp1:post (none,())=pure true) (hp2:post (some false,())=pure false)
  (hb:∀ (f:Field) s,f.name ≠ "_"→body f s=do
     let a ←part f.type cs.toArray f.offset
     let b ←part f.type ds.toArray f.offset
     let e ←Op.equalIn (d+D) f.type a b
     if (!e)=true then pure (ForInStep.done (some false,())) else pure (ForInStep.yield (none,()))):∀ (fs:List Field) (off:Nat) (ks:List Kd),Pg P (Hp P D) off fs=some ks→Ec ks (cs.drop off)=true→Ec ks (ds.drop off)=true→
  rd P (forIn fs (none,()) body >>= post) w=some (I1 ks (cs.drop off) (ds.drop off))
 | [],off,ks,h,h1,h2=>by
  simp only [Pg,lx16] at h
  subst h
  rw [List.forIn_nil,Ai,Ak,lx17,hp1]
  rfl
 | f::fs,off,ks,h,h1,h2=>by
  simp only [Pg] at h
  split at h
  rotate_left
  ·cases h
  rename_i hf
  obtain ⟨hf1,rfl⟩:=hf
  split at h
  rotate_left
  ·cases h
  rename_i k1 hk1
  split at h
  rotate_left
  ·cases h
  rename_i hs
  simp only [lx24] at h
  obtain ⟨k2,hk2,rfl⟩:=h
  have l1:=Jk h1
  have l2:=Jk h2
  simp only [lx5,lx93] at l1 l2
  obtain ⟨a1,a2⟩:=Gi h1
  obtain ⟨b1,b2⟩:=Gi h2
  obtain ⟨hs,hpos⟩:=hs
  rw [Jl k1 k2 _ _ (by simp; omega) (by simp; omega)]
  rw [List.drop_drop] at a2 b2
  have p1:=Lx (w:=w) hk1 hs (cs:=cs) (off:=f.offset) (by omega)
  have p2:=Lx (w:=w) hk1 hs (cs:=ds) (off:=f.offset) (by omega)
  have p3:=ih f.type k1 hk1 _ _ a1 b1
  have hrec:=Ni ih cs ds hp1 hp2 hb fs (f.offset+k1.length) k2 hk2 a2 b2
  rw [Ai] at hrec
  rw [Ai,List.forIn_cons,Ai,hb f _ hf1]
  simp only [Ai,p1,p2,p3,lx17]
  rw [List.drop_drop,List.drop_drop]
  cases he:I1 k1 (List.take k1.length (List.drop f.offset cs)) (List.take k1.length (List.drop f.offset ds)) with
  | true=>
   exact Aok
  | false=>
   simp only [TO,lx6,Ak,lx17,W1,hp2]
theorem Ph {d D:Nat} {e:TypeId} {ks:List Kd} (hk:Hp P D e=some ks) (hs:(P.info? e).map (·.size)=some ks.length) (hpos:0 < ks.length)
  (ih:∀ xs ys,Ec ks xs=true→Ec ks ys=true→rd P (Op.equalIn (d+D) e (mkV P e xs) (mkV P e ys)) w=some (I1 ks xs ys))
  (cs ds:List Value) {body:Nat→Option Bool × Unit→Sem (ForInStep (Option Bool × Unit))} {post:Option Bool × Unit→Sem Bool} (hp1:post (none,())=pure true) (hp2:post (some false,())=pure false)
  (hb:∀ (i:Nat) s,body i s=do
     let a ←part e cs.toArray (i * ks.length)
     let b ←part e ds.toArray (i * ks.length)
     let e ←Op.equalIn (d+D) e a b
     if (!e)=true then pure (ForInStep.done (some false,())) else pure (ForInStep.yield (none,()))):∀ (n i:Nat),Ec (List.replicate n ks).flatten (cs.drop (i * ks.length))=true→Ec (List.replicate n ks).flatten (ds.drop (i * ks.length))=true→
  rd P (forIn (List.range' i n) (none,()) body >>= post) w=some (I1 (List.replicate n ks).flatten (cs.drop (i * ks.length)) (ds.drop (i * ks.length)))
 | 0,i,h1,h2=>by
  rw [List.range'_zero,List.forIn_nil,Ai,Ak,lx17,hp1]
  rfl
 | n+1,i,h1,h2=>by
  rw [List.replicate_succ,List.flatten_cons] at h1 h2 ⊢
  have l1:=Jk h1
  have l2:=Jk h2
  simp only [lx5,lx93] at l1 l2
  obtain ⟨a1,a2⟩:=Gi h1
  obtain ⟨b1,b2⟩:=Gi h2
  rw [Jl ks _ _ _ (by simp; omega) (by simp; omega)]
  rw [List.drop_drop] at a2 b2
  have em:i * ks.length+ks.length=(i+1) * ks.length:=by rw [Gt,Nat.one_mul]
  rw [em] at a2 b2
  have p1:=Lx (w:=w) hk hs (cs:=cs) (off:=i * ks.length) (by omega)
  have p2:=Lx (w:=w) hk hs (cs:=ds) (off:=i * ks.length) (by omega)
  have p3:=ih _ _ a1 b1
  have hrec:=Ph hk hs hpos ih cs ds hp1 hp2 hb n (i+1) a2 b2
  rw [Ai] at hrec
  rw [Ai,List.range'_succ,List.forIn_cons,Ai,hb]
  simp only [Ai,p1,p2,p3,lx17]
  rw [List.drop_drop,List.drop_drop,em]
  cases he:I1 ks (List.take ks.length (List.drop (i * ks.length) cs)) (List.take ks.length (List.drop (i * ks.length) ds)) with
  | true=>
   exact Aok
  | false=>
   simp only [TO,lx6,Ak,lx17,W1,hp2]
theorem Pj (d:Nat):∀ (D:Nat) (t:TypeId) (ks:List Kd),Hp P D t=some ks→∀ xs ys,Ec ks xs=true→Ec ks ys=true→rd P (Op.equalIn (d+D) t (mkV P t xs) (mkV P t ys)) w=some (I1 ks xs ys)
 | 0,t,ks,h,_,_,_,_=>by simp [Hp] at h
 | D+1,t,ks,h,xs,ys,hx,hy=>by
  have ih:=Pj d D
  have hd:d+(D+1)=(d+D)+1:=Ah
  unfold Hp at h
  rw [hd]
  unfold mkV
  unfold Op.equalIn
  rw [Ai,Ar]
  cases hu:P.underlying t with
  | none=>rw [hu] at h; cases h
  | some q=>
   rw [hu] at h
   cases q <;> simp only [reduceCtorEq] at h
   case bool=>
    exact Auo
   case int k=>
    cases h
    obtain ⟨a,rfl,ha⟩:=Lw hx
    obtain ⟨b,rfl,hb⟩:=Lw hy
    cases a <;> simp only [okK,Em,AR] at ha
    cases b <;> simp only [okK,Em,AR] at hb
    subst ha; subst hb
    simp [Ak,I1,eqK]
   case string=>
    exact Auo
   case array n e=>
    split at h
    rotate_left
    ·cases h
    rename_i k1 hk1
    split at h
    rotate_left
    ·cases h
    rename_i hs
    cases h
    simp only [lx17]
    rw [Ai,Md,hs.1]
    simp only [lx17,Std.Legacy.Range.forIn_eq_forIn_range',Std.Legacy.Range.size,Nat.sub_zero,Nat.add_sub_cancel,Nat.div_one]
    refine (Ph (w:=w) (d:=d) hk1 hs.1 hs.2 (ih e k1 hk1) xs ys rfl rfl (fun i s=>rfl) n 0 (by simpa using hx) (by simpa using hy)).trans ?_
    simp
   case struct fs=>
    split at h
    rotate_left
    ·cases h
    rename_i hs
    simp only [lx17]
    rw [Ai,GZ]
    simp only [lx17,hs,Em,lx7]
    rw [←Array.forIn_toList]
    refine (Ni (w:=w) (d:=d) ih xs ys rfl rfl (fun f s hf=>?_) fs.toList 0 ks h (by simpa using hx) (by simpa using hy)).trans ?_
    ·simp only [hf,ne_eq,not_false_eq_true,lx6]
    ·simp
end
def flK (P:Program) (t:TypeId):Option (List Kd):=
 match P.underlying t with
 | some (.struct _) | some (.array _ _)=>if P.eqGuardType P.depth t=false then Hp P 10 t else none
 | _=>none
def eqM (b:Bool):Option Bool→Option Bool
 | some r=>some (b && r)
 | none=>none
def RB:List Kd→List AV→List AV→Option Bool
 | [],[],[]=>some true
 | .b::ks,.sc (.bool a)::cs,.sc (.bool b)::ds=>eqM (a == b) (RB ks cs ds)
 | .i k::ks,.sc (.int k1 a)::cs,.sc (.int k2 b)::ds=>if k=k1∧k=k2 then eqM (a == b) (RB ks cs ds) else none
 | .s::ks,.sc (.string a)::cs,.sc (.string b)::ds=>eqM (a == b) (RB ks cs ds)
 | _,_,_=>none
def eqA (cs ds:List AV):Option (List Kd)→Option Bool
 | some ks=>RB ks cs ds
 | none=>none
theorem Afo:∀ (ks:List Kd) (cs ds:List AV) (r:Bool),RB ks cs ds=some r→∃ xs ys,De cs=some xs∧De ds=some ys∧Ec ks xs=true∧Ec ks ys=true∧I1 ks xs ys=r
 | [],[],[],r,h=>by simp only [RB,lx16] at h; exact ⟨[],[],rfl,rfl,rfl,rfl,h⟩
 | k::ks,c::cs,e::ds,r,h=>by
  have step:∀ (b:Bool) (u v:Value),eqM b (RB ks cs ds)=some r→c=.sc u→e=.sc v→okK k u=true→okK k v=true→eqK k u v=b→
    ∃ xs ys,De (c::cs)=some xs∧De (e::ds)=some ys∧Ec (k::ks) xs=true∧Ec (k::ks) ys=true∧I1 (k::ks) xs ys=r:=by
   intro b u v h hc he hu hv hb
   cases hr:RB ks cs ds with
   | none=>rw [hr] at h; simp [eqM] at h
   | some r'=>
    rw [hr] at h
    simp only [eqM,lx16] at h
    obtain ⟨xs,ys,h1,h2,h3,h4,h5⟩:=Afo ks cs ds r' hr
    exact ⟨u::xs,v::ys,by rw [hc]; simp [De,BZ,h1],by rw [he]; simp [De,BZ,h2],by simp [Ec,hu,h3],by simp [Ec,hv,h4],by rw [I1,hb,h5,h]⟩
  unfold RB at h
  split at h
  ·rename_i e1 _ _; cases e1
  ·rename_i e1 e2 e3; cases e1; cases e2; cases e3; exact step _ _ _ h rfl rfl rfl rfl rfl
  ·rename_i e1 e2 e3
   cases e1; cases e2; cases e3
   split at h
   ·rename_i hk
    exact step _ _ _ h rfl rfl (by simp [okK,hk.1]) (by simp [okK,hk.2]) rfl
   ·cases h
  ·rename_i e1 e2 e3; cases e1; cases e2; cases e3; exact step _ _ _ h rfl rfl rfl rfl rfl
  ·cases h
 | [],[],_::_,r,h=>by simp [RB] at h
 | [],_::_,_,r,h=>by simp [RB] at h
 | _::_,[],_,r,h=>by unfold RB at h; split at h <;> simp_all
 | _::_,_::_,[],r,h=>by unfold RB at h; split at h <;> simp_all
def neR (z:Option AV):Option Bool→Option AV
 | some r=>some (.sc (.bool (!r)))
 | none=>z
def Bdn (P:Program) (op:BinOp) (t:TypeId) (x y:Operand) (u v:AV):Option AV:=EW P op t x y u v
section
variable {P:Program} (t:TypeId) (x y:Operand) (cs ds:List AV)
theorem Ard {r:Bool} (h:eqA cs ds (flK P t)=some r):∃ a b,BZ (.ag cs)=some (.agg a)∧BZ (.ag ds)=some (.agg b)∧P.eqGuardType P.depth t=false∧rd P (Op.equal t (.agg a) (.agg b)) default=some r:=by
 unfold flK at h
 split at h
 all_goals first | (simp [eqA] at h; done) | skip
 all_goals
  rename_i hu
  split at h
  rotate_left
  ·simp [eqA] at h
  rename_i hg
  cases hk:Hp P 10 t with
  | none=>rw [hk] at h; simp [eqA] at h
  | some ks=>
   rw [hk] at h
   obtain ⟨xs,ys,h1,h2,h3,h4,h5⟩:=Afo ks cs ds r h
   refine ⟨xs.toArray,ys.toArray,by simp [BZ,h1],by simp [BZ,h2],hg,?_⟩
   have:=Pj (P:=P) (w:=default) 9990 10 t ks hk xs ys h3 h4
   unfold mkV at this
   rw [hu] at this
   rw [←h5]
   exact this
theorem Abh (op:BinOp) (a b:Array Value) (hg:P.eqGuardType P.depth t=false):rd P (eqGuard op t x y (.agg a) (.agg b)) default=some ():=by
 unfold eqGuard
 split
 ·exact Aob
 ·exact Aob
 ·rfl
theorem Vg:EW P .neq t x y (.ag cs) (.ag ds)=neR (Bdn P .neq t x y (.ag cs) (.ag ds)) (eqA cs ds (flK P t)):=by
 cases h:eqA cs ds (flK P t) with
 | none=>rfl
 | some r=>
  obtain ⟨a,b,h1,h2,h3,h4⟩:=Ard t cs ds h
  have hb:rd P (binOp .neq t (.agg a) (.agg b)) default=some (.bool (!r)):=by
   have:binOp .neq t (.agg a) (.agg b)=(do pure (.bool (!(←Op.equal t (.agg a) (.agg b)))):Sem Value):=rfl
   rw [this,Ai,h4]; rfl
  simp only [EW,h1,h2,Bp,Ai,Abh t x y .neq a b h3,lx17,hb,neR]
  rfl
theorem Vh (z:Option AV) (r:Bool):neR z (some r)=some (.sc (.bool (!r))):=rfl
theorem Vi (ks:List Kd):eqA cs ds (some ks)=RB ks cs ds:=rfl
theorem Zr:RB [] [] []=some true:=rfl
theorem Aoz (ks:List Kd) (k:IntKind) (a b:Int):RB (.i k::ks) (.sc (.int k a)::cs) (.sc (.int k b)::ds)=eqM (a == b) (RB ks cs ds):=by simp [RB]
theorem Ap0 (ks:List Kd) (a b:ByteArray):RB (.s::ks) (.sc (.string a)::cs) (.sc (.string b)::ds)=eqM (a == b) (RB ks cs ds):=rfl
theorem Vj (b r:Bool):eqM b (some r)=some (b && r):=rfl
end
end Go.SX
