/-
  Joined texts: SX2.
  Conditions: none.
-/
import Derived.Test.YtdjpkhjaibdogaaGreatL01
namespace Go.SX
set_option linter.unusedSimpArgs false
set_option linter.unusedVariables false
open Go.RowKit (Below)
def rd {α:Type} (P:Program):Sem α→World→Option α
 | .pure a,_=>some a
 | .load _ a k,w=>match w.cell? a with
  | some v=>rd P (k v) w
  | none=>none
 | .program k,w=>rd P (k P) w
 | _,_=>none
theorem rd_run {α:Type} {P:Program} {w:World}:∀ {s:Sem α} {a:α},rd P s w=some a→s.run P w=.ok a w:=by
 intro s
 induction s with
 | pure b=>intro a h; simp only [rd,Option.some.injEq] at h; rw [h]; rfl
 | load m ad k ih=>
  intro a h
  simp only [rd] at h
  split at h
  ·rename_i v hv
   have:=ih v h
   simp only [Sem.run,hv,this]
  ·cases h
 | program k ih=>intro a h; simp only [rd] at h; exact ih P h
 | _=>intro a h; simp [rd] at h
theorem rd_keep {α:Type} {P:Program} {w w':World} (hk:∀ a v,w.cell? a=some v→w'.cell? a=some v):∀ {s:Sem α} {a:α},rd P s w=some a→rd P s w'=some a:=by
 intro s
 induction s with
 | pure b=>intro a h; exact h
 | load m ad k ih=>
  intro a h
  simp only [rd] at h ⊢
  split at h
  ·rename_i v hv
   rw [hk ad v hv]
   exact ih v h
  ·cases h
 | program k ih=>intro a h; simp only [rd] at h ⊢; exact ih P h
 | _=>intro a h; simp [rd] at h
section
variable {α β:Type} {P:Program} {w:World}
theorem rd_bind' (s:Sem α) (f:α→Sem β):rd P (s.bind f) w=(rd P s w).bind fun a=>rd P (f a) w:=by
 induction s with
 | pure b=>rfl
 | load m ad k ih=>
  simp only [Sem.bind,rd]
  split
  ·exact ih _
  ·rfl
 | program k ih=>simp only [Sem.bind,rd]; exact ih P
 | _=>rfl
theorem rd_bind (s:Sem α) (f:α→Sem β):rd P (s >>= f) w=(rd P s w).bind fun a=>rd P (f a) w:=rd_bind' s f
theorem rd_map (s:Sem α) (f:α→β):rd P (f <$> s) w=(rd P s w).map f:=by
 show rd P (s.bind fun a=>.pure (f a)) w=_
 rw [rd_bind']
 cases rd P s w <;> rfl
theorem rd_pure (a:α):rd P (Pure.pure a:Sem α) w=some a:=rfl
theorem rd_load (a:Addr):rd P (load a) w=w.cell? a:=by
 simp only [load,rd]
 cases w.cell? a <;> rfl
theorem rd_program:rd P program w=some P:=rfl
theorem rd_stuck (why:String):rd P (stuck why:Sem α) w=none:=rfl
theorem rd_underlying (t:TypeId):rd P (underlying t) w=P.underlying t:=by
 unfold underlying
 rw [rd_bind,rd_program]
 simp only [Option.bind_some]
 cases P.underlying t <;> rfl
theorem rd_typeInfo (t:TypeId):rd P (typeInfo t) w=P.info? t:=by
 unfold typeInfo
 rw [rd_bind,rd_program]
 simp only [Option.bind_some]
 cases P.info? t <;> rfl
theorem rd_sizeOf (t:TypeId):rd P (sizeOf t) w=(P.info? t).map (·.size):=by
 unfold sizeOf
 rw [rd_bind,rd_typeInfo]
 cases P.info? t <;> rfl
theorem rd_zeroValue (t:TypeId):rd P (zeroValue t) w=(P.info? t).bind (·.zero):=by
 unfold zeroValue
 rw [rd_bind,rd_typeInfo]
 cases h:P.info? t with
 | none=>rfl
 | some i=>simp only [Option.bind_some]; cases i.zero <;> rfl
end
def spure {α:Type} (P:Program) (s:Sem α):Option α:=rd P s default
theorem spure_rd {α:Type} {P:Program} {s:Sem α} {a:α} (h:spure P s=some a) (w:World):rd P s w=some a:=by
 refine rd_keep (w:=default) ?_ h
 intro ad v hv
 have:(default:World).heap=#[]:=rfl
 simp [World.cell?,this] at hv
structure TyD where
 agg:Bool
 sz:Nat
 bytes:Nat
 zero:Option Value
 el:Option Nat
 len:Option Nat
 flds:List (Nat × Nat)
def tyD (P:Program) (t:TypeId):Option TyD:=
 match P.info? t,P.underlying t with
 | some i,some (.struct fs)=>some ⟨true,i.size,i.bytes,i.zero,none,none,fs.toList.map fun f=>(f.offset,f.type)⟩
 | some i,some (.array n e)=>some ⟨true,i.size,i.bytes,i.zero,some e,some n,[]⟩
 | some i,some (.slice e)=>some ⟨false,i.size,i.bytes,i.zero,some e,none,[]⟩
 | some i,some _=>some ⟨false,i.size,i.bytes,i.zero,none,none,[]⟩
 | _,_=>none
structure St where
 T:List AV
 H:List Blk
 cnt:Nat
def St.put (s:St) (d:Option Nat) (v:AV):St:=
 match d with
 | some d=>{ s with T:=s.T.set d v }
 | none=>s
def ofCell (v:Value):AV:=
 match v with
 | .slice none 0 0=>.vw true []
 | .func (.func f) first cap=>if first.isEmpty && cap.isEmpty then .fn f [] else .sc v
 | .agg _ | .tuple _=>.jk
 | v=>.sc v
def ofAgg (v:Value):AV:=
 match v with
 | .agg cs=>if cs.toList.all (·.oneCell')=true then .ag (cs.toList.map ofCell) else .jk
 | v=>ofCell v
def ofV (v:Value):AV:=
 match v with
 | .tuple vs=>if vs.isEmpty then .un else .tu (vs.toList.map ofAgg)
 | v=>ofAgg v
mutual
def conc:AV→Option Value
 | .sc v=>some v
 | .ag cs=>(concs cs).map fun l=>.agg l.toArray
 | .tu cs=>(concs cs).map fun l=>.tuple l.toArray
 | _=>none
def concs:List AV→Option (List Value)
 | []=>some []
 | a::r=>match conc a,concs r with
  | some v,some l=>some (v::l)
  | _,_=>none
end
def ev (T:List AV):Operand→AV
 | .tmp t=>T.getD t .un
 | .const v=>ofV v
 | .global _=>.jk
 | .func f=>.fn f []
def AV.stor:AV→Bool
 | .jk | .un | .tu _=>false
 | _=>true
def liveB (H:List Blk) (id ver:Nat):Option Blk:=
 match H[id]? with
 | some B=>if B.live=true∧B.ver=ver then some B else none
 | none=>none
def takeT (d:TyD) (cs:List AV) (off:Nat):Option AV:=
 if d.agg then (if off+d.sz≤cs.length then some (.ag ((cs.drop off).take d.sz)) else none) else cs[off]?
def setAll {α:Type} (cs:List α) (off:Nat):List α→List α
 | []=>cs
 | v::r=>setAll (cs.set off v) (off+1) r
def AV.setC (e:AV) (off:Nat) (vs:List AV):Option AV:=
 match e with
 | .ag cs=>if off+vs.length≤cs.length then some (.ag (setAll cs off vs)) else none
 | _=>match off,vs with
  | 0,[x]=>some x
  | _,_=>none
def fillA (place:Nat→Option (Nat × Nat)) (cells:List AV):List (Nat × AV)→Option (List AV)
 | []=>some cells
 | (i,v)::r=>match place i with
  | some (off,size)=>if v.stor=true∧v.cells.length=size∧off+size≤cells.length then fillA place (setAll cells off v.cells) r else none
  | none=>none
def fillE (size:Nat) (es:List AV):List (Nat × AV)→Option (List AV)
 | []=>some es
 | (i,v)::r=>if v.stor=true∧v.cells.length=size∧i < es.length then fillE size (es.set i v) r else none
mutual
def borrow (H:List Blk):AV→AV
 | .pt id ver i off=>match liveB H id ver with
  | some B=>.vp B.els i off
  | none=>.jk
 | .sl id ver lo len=>match liveB H id ver with
  | some B=>.vw false ((B.els.drop lo).take len)
  | none=>.jk
 | .ag cs=>.ag (borrows H cs)
 | .tu cs=>.tu (borrows H cs)
 | .fn f cs=>.fn f (borrows H cs)
 | a=>a
def borrows (H:List Blk):List AV→List AV
 | []=>[]
 | a::r=>borrow H a::borrows H r
end
mutual
def AV.noref:AV→Bool
 | .pt .. | .sl ..=>false
 | .ag cs | .tu cs | .fn _ cs=>norefs cs
 | _=>true
def norefs:List AV→Bool
 | []=>true
 | a::r=>a.noref && norefs r
end
structure Env where
 isP:Nat→Bool
 pcall:Nat→List AV→Option AV
 hcall:Nat→List AV→List Blk→Nat→Option (AV × List Blk × Nat)
 lit:Bool
 perm:Nat→Option (List Nat)
 hcl:Nat→Bool
def Env.hb (E:Env) (g:Nat):Bool:=E.hcl g && !E.isP g
def bound (n:Int) (hi:Nat):Option Nat:=if 0≤n∧n≤(hi:Int) then some n.toNat else none
def boundO (T:List AV) (x:Option Operand) (dflt:Nat) (hi:Nat):Option Nat:=
 match x with
 | none=>some dflt
 | some x=>match ev T x with
  | .sc (.int _ n)=>bound n hi
  | _=>none
def concO (T:List AV):Option Operand→Option (Option Value)
 | none=>some none
 | some x=>match conc (ev T x) with
  | some v=>some (some v)
  | none=>none
def lenA (H:List Blk):AV→Option Nat
 | .vw _ es=>some es.length
 | .sl _ _ _ len=>some len
 | _=>none
def isNilA:AV→Option Bool
 | .vw _ (_::_)=>some false
 | .sc (.slice none _ _)=>some true
 | .sc (.slice (some _) _ _)=>some false
 | _=>none
def isSlT (P:Program) (t:TypeId):Bool:=match P.underlying t with
 | some (.slice _)=>true
 | _=>false
def nilR (op:BinOp):Bool→Option Bool→Option AV
 | true,some b=>match op with
  | .eql=>some (.sc (.bool b))
  | .neq=>some (.sc (.bool (!b)))
  | _=>none
 | _,_=>none
def nilX:Option Blk→Nat→Nat→Nat→Nat→AV
 | some _,id,ver,lo,n=>if n=0 then .sl id ver lo n else .vw false [.un]
 | none,id,ver,lo,n=>.sl id ver lo n
def nilV (H:List Blk):AV→AV
 | .sl id ver lo n=>nilX (liveB H id ver) id ver lo n
 | a=>a
def nilB (P:Program) (op:BinOp) (t:TypeId) (u:AV):Operand→Option AV
 | .const (.slice none 0 0)=>nilR op (isSlT P t) (isNilA u)
 | _=>none
def rval (P:Program) (s:St) (o:Op):Option AV:=
 match o with
 | .move x | .assign x=>some (ev s.T x)
 | .pick c a b=>match ev s.T c with
  | .sc (.bool t)=>some (if t=true then ev s.T a else ev s.T b)
  | _=>none
 | .load t x=>match tyD P t,ev s.T x with
  | some d,.pt id ver i off=>match liveB s.H id ver with
   | some B=>match B.els[i]? with
    | some e=>takeT d e.cells off
    | none=>none
   | none=>none
  | some d,.vp es i off=>match es[i]? with
   | some e=>match takeT d e.cells off with
    | some v=>if v.noref=true then some v else none
    | none=>none
   | none=>none
  | _,_=>none
 | .nilCheck x=>match ev s.T x with
  | .pt id ver i off=>match liveB s.H id ver with
   | some _=>some (.pt id ver i off)
   | none=>none
  | .vp es i off=>some (.vp es i off)
  | .fn f cs=>some (.fn f cs)
  | _=>none
 | .binOp op t x y _=>match conc (nilV s.H (ev s.T x)),conc (ev s.T y) with
  | some a,some b=>match spure P (do eqGuard op t x y a b; binOp op t a b) with
   | some v=>some (ofV v)
   | none=>none
  | _,_=>nilB P op t (nilV s.H (ev s.T x)) y
 | .unOp op _ x=>match conc (ev s.T x) with
  | some a=>match spure P (Op.unary op a) with
   | some v=>some (ofV v)
   | none=>none
  | none=>none
 | .convert src dst x=>match conc (ev s.T x) with
  | some a=>match spure P (convert src dst a) with
   | some v=>some (ofV v)
   | none=>none
  | none=>none
 | .fieldAddr st x f=>match tyD P st with
  | some d=>match d.flds[f]? with
   | some (off,ft)=>match tyD P ft with
    | some df=>if df.sz=0 then none else match ev s.T x with
     | .pt id ver i o=>match liveB s.H id ver with
      | some _=>some (.pt id ver i (o+off))
      | none=>none
     | .vp es i o=>some (.vp es i (o+off))
     | _=>none
    | none=>none
   | none=>none
  | none=>none
 | .field st x f=>match tyD P st with
  | some d=>match d.flds[f]? with
   | some (off,ft)=>match tyD P ft with
    | some df=>match ev s.T x with
     | .ag cs=>takeT df cs off
     | _=>none
    | none=>none
   | none=>none
  | none=>none
 | .indexAddr t x i=>match tyD P t with
  | some d=>match d.el with
   | some el=>match tyD P el with
    | some de=>match d.len,ev s.T x,ev s.T i with
     | none,.vw _ es,.sc (.int _ n)=>match (if 0≤n then es[n.toNat]? else none) with
      | some e=>if e.cells.length=de.sz then some (.vp es n.toNat 0) else none
      | none=>none
     | none,.sl id ver lo len,.sc (.int _ n)=>match liveB s.H id ver with
      | some B=>if 0≤n∧n < (len:Int)∧B.esz=de.sz then some (.pt id ver (lo+n.toNat) 0) else none
      | none=>none
     | some m,.pt id ver k o,.sc (.int _ n)=>match liveB s.H id ver with
      | some _=>if 0≤n∧n < (m:Int) then some (.pt id ver k (o+n.toNat * de.sz)) else none
      | none=>none
     | some m,.vp es k o,.sc (.int _ n)=>if 0≤n∧n < (m:Int) then some (.vp es k (o+n.toNat * de.sz)) else none
     | _,_,_=>none
    | none=>none
   | none=>none
  | none=>none
 | .index t x i=>match tyD P t with
  | some d=>match d.el,d.len with
   | some el,some m=>match tyD P el with
    | some de=>match ev s.T x,ev s.T i with
     | .ag cs,.sc (.int _ n)=>if 0≤n∧n < (m:Int) then takeT de cs (n.toNat * de.sz) else none
     | _,_=>none
    | none=>none
   | none,none=>match conc (ev s.T x),conc (ev s.T i) with
    | some a,some b=>match spure P (Instr.index t a b) with
     | some v=>some (ofV v)
     | none=>none
    | _,_=>none
   | _,_=>none
  | none=>none
 | .slice t x lo hi mx=>match tyD P t with
  | some d=>match d.el,d.len with
   | some el,none=>match tyD P el with
    | some de=>match ev s.T x with
     | .vw z es=>match boundO s.T mx es.length es.length with
      | some m=>match boundO s.T hi es.length m with
       | some h=>match boundO s.T lo 0 h with
        | some l=>if es.all (fun e=>e.cells.length=de.sz)=true∧(mx.isSome=true→hi.isSome=true) then some (.vw (if mx.isSome then decide (m=h) else (z && decide (h=es.length))) ((es.drop l).take (h - l))) else none
        | none=>none
       | none=>none
      | none=>none
     | .sl id ver lo' len=>match mx,liveB s.H id ver with
      | none,some B=>match boundO s.T hi len len with
       | some h=>match boundO s.T lo 0 h with
        | some l=>if B.esz=de.sz then some (.sl id ver (lo'+l) (h - l)) else none
        | none=>none
       | none=>none
      | some _,some B=>if boundO s.T mx len len=some 0∧hi.isSome=true∧boundO s.T hi len 0=some 0∧boundO s.T lo 0 0=some 0 then some (.vw true []) else none
      | _,_=>none
     | _=>none
    | none=>none
   | some el,some m=>match tyD P el,ev s.T x,lo,mx with
    | some de,.vp es i off,none,none=>match es[i]?,boundO s.T hi m m with
     | some e,some h=>if de.sz=1∧off+m≤e.cells.length∧m≤1000000∧e.cells.all (fun a=>a.cells.length=1)=true then some (.vw false ((e.cells.drop off).take h)) else none
     | _,_=>none
    | _,_,_,_=>none
   | none,none=>match conc (ev s.T x),concO s.T lo,concO s.T hi,concO s.T mx with
    | some a,some l,some h,some m=>match spure P (Instr.sliceAt t a l h m) with
     | some v=>some (ofV v)
     | none=>none
    | _,_,_,_=>none
   | _,_=>none
  | none=>none
 | .extract x i=>match ev s.T x with
  | .tu vs=>vs[i]?
  | _=>none
 | .makeFunc (.func f) first caps=>if first.isEmpty=true then some (.fn f (caps.toList.map (ev s.T))) else none
 | .build t parts=>match tyD P t with
  | some d=>match d.zero with
   | some z=>match ofAgg z with
    | .ag zs=>match d.len,d.el with
     | some _,some el=>match tyD P el with
      | some de=>match fillA (fun i=>some (i * de.sz,de.sz)) zs (parts.toList.map fun p=>(p.1,ev s.T p.2)) with
       | some cs=>some (.ag cs)
       | none=>none
      | none=>none
     | none,none=>if d.agg=true then
       match d.flds.mapM (fun f=>(tyD P f.2).map fun df=>(f.1,df.sz)) with
       | some places=>match fillA (fun i=>places[i]?) zs (parts.toList.map fun p=>(p.1,ev s.T p.2)) with
        | some cs=>some (.ag cs)
        | none=>none
       | none=>none
      else none
     | _,_=>none
    | _=>none
   | none=>none
  | none=>none
 | .call { callee:=.builtin .len,args,argTypes }=>match argTypes.toList,args.toList with
  | [t],[x]=>match tyD P t with
   | some d=>match d.el,d.len with
    | some _,none=>match lenA s.H (ev s.T x) with
     | some n=>some (.sc (.int .i64 n))
     | none=>none
    | some _,some m=>some (.sc (.int .i64 m))
    | none,none=>match conc (ev s.T x) with
     | some a=>match spure P (Builtin.len_ argTypes 0 #[a]) with
      | some v=>some (ofV v)
      | none=>none
     | none=>none
    | _,_=>none
   | none=>none
  | _,_=>none
 | .call { callee:=.builtin .min,args,argTypes }=>match concs (args.toList.map (ev s.T)) with
  | some l=>match spure P (Builtin.min_ argTypes 0 l.toArray) with
   | some v=>some (ofV v)
   | none=>none
  | none=>none
 | .call { callee:=.builtin .max,args,argTypes }=>match concs (args.toList.map (ev s.T)) with
  | some l=>match spure P (Builtin.max_ argTypes 0 l.toArray) with
   | some v=>some (ofV v)
   | none=>none
  | none=>none
 | _=>none
def target (s:St) (o:Op):Option (Nat × List AV):=
 match o with
 | .call { callee:=.value f,args,.. }=>match ev s.T f with
  | .fn g caps=>some (g,args.toList.map (ev s.T)++caps)
  | _=>none
 | _=>none
def isCall:Op→Bool
 | .call { callee:=.value _,.. }=>true
 | _=>false
def elsA (H:List Blk):AV→Option (List AV)
 | .vw _ es=>if es.all (·.noref)=true then some es else none
 | .sl id ver lo len=>(liveB H id ver).map fun B=>(B.els.drop lo).take len
 | .sc (.slice _ 0 _)=>some []
 | _=>none
def popTmp (H:List Blk) (x:AV):List Blk:=
 match x with
 | .sl id _ _ _=>match H[id]? with
  | some B=>if B.tmp=true∧id+1=H.length then H.dropLast else H
  | none=>H
 | _=>H
def hstep (P:Program) (s:St) (o:Op) (dst:Option Nat):Option St:=
 match o with
 | .box t x=>let v:=ev s.T x
  if v.stor=true then some (St.put { s with H:=s.H++[⟨true,s.cnt,t,v.cells.length,[v],false⟩],cnt:=s.cnt+1 } dst (.pt s.H.length s.cnt 0 0)) else none
 | .alloc t=>match tyD P t with
  | some d=>match d.zero with
   | some z=>if (ofAgg z).stor=true then some (St.put { s with H:=s.H++[⟨true,s.cnt,t,(ofAgg z).cells.length,[ofAgg z],false⟩],cnt:=s.cnt+1 } dst (.pt s.H.length s.cnt 0 0)) else none
   | none=>none
  | none=>none
 | .store t a x=>match tyD P t,ev s.T a with
  | some d,.pt id ver i off=>let v:=ev s.T x
   match liveB s.H id ver with
   | some B=>match B.els[i]? with
    | some e=>if v.stor=true∧v.cells.length=d.sz∧0 < d.sz then
      match e.setC off v.cells with
      | some e'=>some (St.put { s with H:=s.H.set id { B with els:=B.els.set i e' } } dst .un)
      | none=>none
     else none
    | none=>none
   | none=>none
  | _,_=>none
 | .buildSlice t len parts=>match tyD P t with
  | some d=>match d.el,d.len with
   | some el,none=>match tyD P el with
    | some de=>match de.zero with
     | some z=>match fillE de.sz (List.replicate len (ofAgg z)) (parts.toList.map fun p=>(p.1,ev s.T p.2)) with
      | some es=>if (ofAgg z).stor=true∧(ofAgg z).cells.length=de.sz∧0 < de.sz∧len * de.sz≤16777216 then
        some (St.put { s with H:=s.H++[⟨true,s.cnt,el,de.sz,es,true⟩],cnt:=s.cnt+1 } dst (.sl s.H.length s.cnt 0 len)) else none
      | none=>none
     | none=>none
    | none=>none
   | _,_=>none
  | none=>none
 | .makeSlice t l c=>match tyD P t with
  | some d=>match d.el,d.len with
   | some el,none=>match tyD P el with
    | some de=>match de.zero,ev s.T l,ev s.T c with
     | some z,.sc (.int _ n),.sc (.int _ m)=>
      if (ofAgg z).stor=true∧(ofAgg z).cells.length=de.sz∧0 < de.sz∧0 < de.bytes∧0≤n∧n≤m∧m * de.bytes≤140737488355328 then
       some (St.put { s with H:=s.H++[⟨true,s.cnt,el,de.sz,List.replicate n.toNat (ofAgg z),false⟩],cnt:=s.cnt+1 } dst (.sl s.H.length s.cnt 0 n.toNat)) else none
     | _,_,_=>none
    | none=>none
   | _,_=>none
  | none=>none
 | .call { callee:=.builtin .append,args,argTypes }=>match argTypes.toList,args.toList with
  | [t,t'],[x,y]=>if t=t' then match tyD P t with
   | some d=>match d.el,d.len with
    | some el,none=>match tyD P el with
     | some de=>match de.zero,elsA s.H (ev s.T y) with
      | some z,some ys=>
       if 0 < de.sz∧0 < de.bytes∧z.cells.size=de.sz∧ys.all (fun e=>e.cells.length=de.sz)=true then
        match ev s.T x with
        | .vw true []=>if ys.length * de.bytes≤140737488355328 then
          let H1:=popTmp s.H (ev s.T y)
          some (St.put { s with H:=H1++[⟨true,s.cnt,el,de.sz,ys,false⟩],cnt:=s.cnt+1 } dst (.sl H1.length s.cnt 0 ys.length)) else none
        | .sl id ver lo len=>match liveB (popTmp s.H (ev s.T y)) id ver with
         | some B=>if B.esz=de.sz∧B.ty=el∧(len+ys.length) * de.bytes≤140737488355328 then
           let H1:=popTmp s.H (ev s.T y)
           some (St.put { s with H:=H1.set id ⟨true,s.cnt,el,de.sz,(B.els.drop lo).take len++ys,false⟩,cnt:=s.cnt+1 } dst (.sl id s.cnt 0 (len+ys.length))) else none
         | none=>none
        | _=>none
       else none
      | _,_=>none
     | none=>none
    | _,_=>none
   | none=>none
   else none
  | _,_=>none
 | .call { callee:=.builtin .copy,args,argTypes }=>match argTypes.toList,args.toList with
  | [t,_],[x,y]=>match tyD P t with
   | some d=>match d.el,d.len with
    | some el,none=>match tyD P el with
     | some de=>match ev s.T x,elsA s.H (ev s.T y) with
      | .sl id ver lo len,some ys=>match liveB s.H id ver with
       | some B=>if 0 < de.sz∧B.esz=de.sz∧ys.all (fun e=>e.cells.length=de.sz)=true then
         some (St.put { s with H:=s.H.set id { B with els:=B.els.take lo++ys.take (min ys.length len)++B.els.drop (lo+min ys.length len) } } dst (.sc (.int .i64 (min ys.length len:Nat)))) else none
       | none=>none
      | _,_=>none
     | none=>none
    | _,_=>none
   | none=>none
  | _,_=>none
 | .call { callee:=.builtin .clear,args,argTypes }=>match argTypes.toList,args.toList with
  | [t],[x]=>match tyD P t with
   | some d=>match d.el,d.len with
    | some el,none=>match tyD P el with
     | some de=>match de.zero,ev s.T x with
      | some z,.sl id ver lo len=>match liveB s.H id ver with
       | some B=>if 0 < de.sz∧B.esz=de.sz∧(ofAgg z).stor=true∧(ofAgg z).cells.length=de.sz then
         some (St.put { s with H:=s.H.set id { B with els:=B.els.take lo++List.replicate len (ofAgg z)++B.els.drop (lo+len) } } dst (.tu [])) else none
       | none=>none
      | _,_=>none
     | none=>none
    | _,_=>none
   | none=>none
  | _,_=>none
 | _=>none
def isHeapOp:Op→Bool
 | .box .. | .alloc _ | .store .. | .buildSlice .. | .makeSlice ..=>true
 | .call { callee:=.builtin .append,.. } | .call { callee:=.builtin .copy,.. } | .call { callee:=.builtin .clear,.. }=>true
 | _=>false
def hopB (hc:Nat→Bool):Op→Bool
 | .box .. | .alloc _ | .store .. | .buildSlice .. | .makeSlice ..=>true
 | .call ⟨.builtin .append,_,_⟩ | .call ⟨.builtin .copy,_,_⟩ | .call ⟨.builtin .clear,_,_⟩=>true
 | .call ⟨.value (.func g),_,_⟩=>hc g
 | _=>false
theorem hopB_of {hc:Nat→Bool} {o:Op} (h:isHeapOp o=true):hopB hc o=true:=by
 unfold isHeapOp at h
 split at h <;> first | rfl | cases h
theorem hopB_no {hc:Nat→Bool} {o:Op} (h:hopB hc o=false):isHeapOp o=false:=by
 cases hq:isHeapOp o with
 | false=>rfl
 | true=>rw [hopB_of hq] at h; cases h
def pval (P:Program) (E:Env) (s:St) (o:Op):Option AV:=
 if isCall o=true then
  match target s o with
  | some (g,args)=>E.pcall g (args.map (borrow s.H))
  | none=>none
 else rval P s o
def hval (P:Program) (E:Env) (s:St) (o:Oper):Option St:=
 if isCall o.op=true then
  match target s o.op with
  | some (g,args)=>match E.hcall g args s.H s.cnt with
   | some (r,H',cnt')=>some (St.put { s with H:=H',cnt:=cnt' } o.dst r)
   | none=>none
  | none=>none
 else hstep P s o.op o.dst
def isPure (E:Env) (s:St) (o:Op):Bool:=
 if isCall o then (match target s o with | some (g,_)=>E.isP g | none=>true) else !isHeapOp o
def guardV (all:Array Oper) (s:St) (j:Nat):AV:=
 match (all[j]?).bind (·.dst) with
 | some d=>s.T.getD d .un
 | none=>.un
def opStep (P:Program) (E:Env) (all:Array Oper) (s:St) (o:Oper):Option St:=
 match o.guard with
 | none=>if isPure E s o.op=true then (pval P E s o.op).map (s.put o.dst) else hval P E s o
 | some (j,want)=>match guardV all s j with
  | .sc (.bool b)=>
   if isPure E s o.op=true then (if b=want then pval P E s o.op else some .un).map (s.put o.dst)
   else if b=want then hval P E s o else some (s.put o.dst .un)
  | .un=>some (s.put o.dst .un)
  | _=>none
def lastEls:List Blk→List AV
 | []=>[]
 | [B]=>B.els
 | _::B::r=>lastEls (B::r)
def litOp:Op→Bool
 | .makeSlice .. | .buildSlice ..=>true
 | _=>false
def litR (s:St) (dst:Option Nat):Option St→Option St
 | some s1=>if norefs (lastEls s1.H)=true then some (St.put ⟨s.T,s.H,s.cnt+1⟩ dst (.vw false (lastEls s1.H))) else none
 | none=>none
def litStep (P:Program) (s:St) (o:Op) (dst:Option Nat):Option St:=litR s dst (hstep P s o dst)
def opM (l:Bool) (o:Oper) (x y:Option St):Option St:=if (l && litOp o.op && o.guard.isNone)=true then y else x
def opStepM (P:Program) (E:Env) (all:Array Oper) (s:St) (o:Oper):Option St:=opM E.lit o (opStep P E all s o) (litStep P s o.op o.dst)
def runOps (P:Program) (E:Env) (all:Array Oper):List Oper→St→Option St
 | [],s=>some s
 | o::r,s=>match opStepM P E all s o with
  | some s'=>runOps P E all r s'
  | none=>none
def runPure (P:Program) (E:Env) (all:Array Oper):List Oper→St→Option St
 | [],s=>some s
 | o::r,s=>if isPure E s o.op=true then
   match opStep P E all s o with
   | some s'=>runPure P E all r s'
   | none=>none
  else none
end Go.SX
