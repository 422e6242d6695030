/-
  Lemmas towards ModesPriority (joined texts: SX2, SX3).
  Conditions: none.
-/
import Derived.Test.YtdjpkhjaibdogaaGreatL01
import Derived.Test.YtdjpkhjaibdogaaGreatL02
set_option linter.unusedSimpArgs false
set_option linter.unusedVariables false
set_option maxRecDepth 100000
namespace Go.SX
open Go.RowKit (Below)
def rd {α:Type} (P:Program):Sem α→World→Option α
 | .pure a,_=>some a
 | .load _ a k,w=>match w.cell? a with
  | some v=>rd P (k v) w
  | none=>none
 | .program k,w=>rd P (k P) w
 | _,_=>none
theorem EK {α:Type} {P:Program} {w:World}:∀ {s:Sem α} {a:α},rd P s w=some a→s.run P w=.ok a w:=by
 intro s
 induction s with
 | pure b=>intro a h; simp only [rd,lx16] at h; rw [h]; rfl
 | load m ad k ih=>
  intro a h
  simp only [rd] at h
  split at h
  ·rename_i v hv
   have:=ih v h
   simp only [Sem.run,hv,this]
  ·cases h
 | program k ih=>intro a h; simp only [rd] at h; exact ih P h
 | _=>intro a h; simp [rd] at h
theorem U3 {α:Type} {P:Program} {w w':World} (hk:∀ a v,w.cell? a=some v→w'.cell? a=some v):∀ {s:Sem α} {a:α},rd P s w=some a→rd P s w'=some a:=by
 intro s
 induction s with
 | pure b=>intro a h; exact h
 | load m ad k ih=>
  intro a h
  simp only [rd] at h ⊢
  split at h
  ·rename_i v hv
   rw [hk ad v hv]
   exact ih v h
  ·cases h
 | program k ih=>intro a h; simp only [rd] at h ⊢; exact ih P h
 | _=>intro a h; simp [rd] at h
section
variable {α β:Type} {P:Program} {w:World}
theorem WQ (s:Sem α) (f:α→Sem β):rd P (s.bind f) w=(rd P s w).bind fun a=>rd P (f a) w:=by
 induction s with
 | pure b=>rfl
 | load m ad k ih=>
  simp only [Sem.bind,rd]
  split
  ·exact ih _
  ·rfl
 | program k ih=>simp only [Sem.bind,rd]; exact ih P
 | _=>rfl
theorem Ah (s:Sem α) (f:α→Sem β):rd P (s >>= f) w=(rd P s w).bind fun a=>rd P (f a) w:=WQ s f
theorem EL (s:Sem α) (f:α→β):rd P (f <$> s) w=(rd P s w).map f:=by
 show rd P (s.bind fun a=>.pure (f a)) w=_
 rw [WQ]
 cases rd P s w <;> rfl
theorem Al (a:α):rd P (Pure.pure a:Sem α) w=some a:=rfl
theorem Acx (a:Addr):rd P (load a) w=w.cell? a:=by
 simp only [load,rd]
 cases w.cell? a <;> rfl
theorem G4:rd P program w=some P:=rfl
theorem WR (why:String):rd P (stuck why:Sem α) w=none:=rfl
theorem Ar (t:TypeId):rd P (underlying t) w=P.underlying t:=by
 unfold underlying
 rw [Ah,G4]
 simp only [lx17]
 cases P.underlying t <;> rfl
theorem JG (t:TypeId):rd P (typeInfo t) w=P.info? t:=by
 unfold typeInfo
 rw [Ah,G4]
 simp only [lx17]
 cases P.info? t <;> rfl
theorem NF (t:TypeId):rd P (sizeOf t) w=(P.info? t).map (·.size):=by
 unfold sizeOf
 rw [Ah,JG]
 cases P.info? t <;> rfl
theorem EM (t:TypeId):rd P (zeroValue t) w=(P.info? t).bind (·.zero):=by
 unfold zeroValue
 rw [Ah,JG]
 cases h:P.info? t with
 | none=>rfl
 | some i=>simp only [lx17]; cases i.zero <;> rfl
end
def Bh {α:Type} (P:Program) (s:Sem α):Option α:=rd P s default
theorem QJ {α:Type} {P:Program} {s:Sem α} {a:α} (h:Bh P s=some a) (w:World):rd P s w=some a:=by
 refine U3 (w:=default) ?_ h
 intro ad v hv
 have:(default:World).heap=#[]:=rfl
 simp [World.cell?,this] at hv
structure TyD where
 agg:Bool
 sz:Nat
 bytes:Nat
 zero:Option Value
 el:Option Nat
 len:Option Nat
 flds:List (Nat × Nat)
def AR (P:Program) (t:TypeId):Option TyD:=
 match P.info? t,P.underlying t with
 | some i,some (.struct fs)=>some ⟨true,i.size,i.bytes,i.zero,none,none,fs.toList.map fun f=>(f.offset,f.type)⟩
 | some i,some (.array n e)=>some ⟨true,i.size,i.bytes,i.zero,some e,some n,[]⟩
 | some i,some (.slice e)=>some ⟨false,i.size,i.bytes,i.zero,some e,none,[]⟩
 | some i,some _=>some ⟨false,i.size,i.bytes,i.zero,none,none,[]⟩
 | _,_=>none
structure St where
 T:List AV
 H:List Blk
 cnt:Nat
def St.put (s:St) (d:Option Nat) (v:AV):St:=
 match d with
 | some d=>{ s with T:=s.T.set d v }
 | none=>s
def Li (v:Value):AV:=
 match v with
 | .slice none 0 0=>.vw true []
 | .func (.func f) first cap=>if first.isEmpty && cap.isEmpty then .fn f [] else .sc v
 | .agg _ | .tuple _=>.jk
 | v=>.sc v
def Ax (v:Value):AV:=
 match v with
 | .agg cs=>if cs.toList.all (·.oneCell')=true then .ag (cs.toList.map Li) else .jk
 | v=>Li v
def LX (v:Value):AV:=
 match v with
 | .tuple vs=>if vs.isEmpty then .un else .tu (vs.toList.map Ax)
 | v=>Ax v
mutual
def Bp:AV→Option Value
 | .sc v=>some v
 | .ag cs=>(C7 cs).map fun l=>.agg l.toArray
 | .tu cs=>(C7 cs).map fun l=>.tuple l.toArray
 | _=>none
def C7:List AV→Option (List Value)
 | []=>some []
 | a::r=>match Bp a,C7 r with
  | some v,some l=>some (v::l)
  | _,_=>none
end
def ev (T:List AV):Operand→AV
 | .tmp t=>T.getD t .un
 | .const v=>LX v
 | .global _=>.jk
 | .func f=>.fn f []
def AV.stor:AV→Bool
 | .jk | .un | .tu _=>false
 | _=>true
def AJ (H:List Blk) (id ver:Nat):Option Blk:=
 match H[id]? with
 | some B=>if B.live=true∧B.ver=ver then some B else none
 | none=>none
def DZ (d:TyD) (cs:List AV) (off:Nat):Option AV:=
 if d.agg then (if off+d.sz≤cs.length then some (.ag ((cs.drop off).take d.sz)) else none) else cs[off]?
def setAll {α:Type} (cs:List α) (off:Nat):List α→List α
 | []=>cs
 | v::r=>setAll (cs.set off v) (off+1) r
def AV.setC (e:AV) (off:Nat) (vs:List AV):Option AV:=
 match e with
 | .ag cs=>if off+vs.length≤cs.length then some (.ag (setAll cs off vs)) else none
 | _=>match off,vs with
  | 0,[x]=>some x
  | _,_=>none
def Fa (place:Nat→Option (Nat × Nat)) (cells:List AV):List (Nat × AV)→Option (List AV)
 | []=>some cells
 | (i,v)::r=>match place i with
  | some (off,size)=>if v.stor=true∧v.cells.length=size∧off+size≤cells.length then Fa place (setAll cells off v.cells) r else none
  | none=>none
def G5 (size:Nat) (es:List AV):List (Nat × AV)→Option (List AV)
 | []=>some es
 | (i,v)::r=>if v.stor=true∧v.cells.length=size∧i < es.length then G5 size (es.set i v) r else none
mutual
def Am (H:List Blk):AV→AV
 | .pt id ver i off=>match AJ H id ver with
  | some B=>.vp B.els i off
  | none=>.jk
 | .sl id ver lo len=>match AJ H id ver with
  | some B=>.vw false ((B.els.drop lo).take len)
  | none=>.jk
 | .ag cs=>.ag (Aj H cs)
 | .tu cs=>.tu (Aj H cs)
 | .fn f cs=>.fn f (Aj H cs)
 | a=>a
def Aj (H:List Blk):List AV→List AV
 | []=>[]
 | a::r=>Am H a::Aj H r
end
mutual
def AV.noref:AV→Bool
 | .pt .. | .sl ..=>false
 | .ag cs | .tu cs | .fn _ cs=>norefs cs
 | _=>true
def norefs:List AV→Bool
 | []=>true
 | a::r=>a.noref && norefs r
end
structure Env where
 isP:Nat→Bool
 pcall:Nat→List AV→Option AV
 hcall:Nat→List AV→List Blk→Nat→Option (AV × List Blk × Nat)
 lit:Bool
 perm:Nat→Option (List Nat)
 hcl:Nat→Bool
def Env.hb (E:Env) (g:Nat):Bool:=E.hcl g && !E.isP g
def Oz (n:Int) (hi:Nat):Option Nat:=if 0≤n∧n≤(hi:Int) then some n.toNat else none
def AS (T:List AV) (x:Option Operand) (dflt:Nat) (hi:Nat):Option Nat:=
 match x with
 | none=>some dflt
 | some x=>match ev T x with
  | .sc (.int _ n)=>Oz n hi
  | _=>none
def D8 (T:List AV):Option Operand→Option (Option Value)
 | none=>some none
 | some x=>match Bp (ev T x) with
  | some v=>some (some v)
  | none=>none
def Aam (H:List Blk):AV→Option Nat
 | .vw _ es=>some es.length
 | .sl _ _ _ len=>some len
 | _=>none
def JH:AV→Option Bool
 | .vw _ (_::_)=>some false
 | .sc (.slice none _ _)=>some true
 | .sc (.slice (some _) _ _)=>some false
 | _=>none
def QK (P:Program) (t:TypeId):Bool:=match P.underlying t with
 | some (.slice _)=>true
 | _=>false
def WS (op:BinOp):Bool→Option Bool→Option AV
 | true,some b=>match op with
  | .eql=>some (.sc (.bool b))
  | .neq=>some (.sc (.bool (!b)))
  | _=>none
 | _,_=>none
def Aqs:Option Blk→Nat→Nat→Nat→Nat→AV
 | some _,id,ver,lo,n=>if n=0 then .sl id ver lo n else .vw false [.un]
 | none,id,ver,lo,n=>.sl id ver lo n
def L6 (H:List Blk):AV→AV
 | .sl id ver lo n=>Aqs (AJ H id ver) id ver lo n
 | a=>a
def Ah5 (P:Program) (op:BinOp) (t:TypeId) (u:AV):Operand→Option AV
 | .const (.slice none 0 0)=>WS op (QK P t) (JH u)
 | _=>none
def Ay (P:Program) (s:St) (o:Op):Option AV:=
 match o with
 | .move x | .assign x=>some (ev s.T x)
 | .pick c a b=>match ev s.T c with
  | .sc (.bool t)=>some (if t=true then ev s.T a else ev s.T b)
  | _=>none
 | .load t x=>match AR P t,ev s.T x with
  | some d,.pt id ver i off=>match AJ s.H id ver with
   | some B=>match B.els[i]? with
    | some e=>DZ d e.cells off
    | none=>none
   | none=>none
  | some d,.vp es i off=>match es[i]? with
   | some e=>match DZ d e.cells off with
    | some v=>if v.noref=true then some v else none
    | none=>none
   | none=>none
  | _,_=>none
 | .nilCheck x=>match ev s.T x with
  | .pt id ver i off=>match AJ s.H id ver with
   | some _=>some (.pt id ver i off)
   | none=>none
  | .vp es i off=>some (.vp es i off)
  | .fn f cs=>some (.fn f cs)
  | _=>none
 | .binOp op t x y _=>match Bp (L6 s.H (ev s.T x)),Bp (ev s.T y) with
  | some a,some b=>match Bh P (do eqGuard op t x y a b; binOp op t a b) with
   | some v=>some (LX v)
   | none=>none
  | _,_=>Ah5 P op t (L6 s.H (ev s.T x)) y
 | .unOp op _ x=>match Bp (ev s.T x) with
  | some a=>match Bh P (Op.unary op a) with
   | some v=>some (LX v)
   | none=>none
  | none=>none
 | .convert src dst x=>match Bp (ev s.T x) with
  | some a=>match Bh P (convert src dst a) with
   | some v=>some (LX v)
   | none=>none
  | none=>none
 | .fieldAddr st x f=>match AR P st with
  | some d=>match d.flds[f]? with
   | some (off,ft)=>match AR P ft with
    | some df=>if df.sz=0 then none else match ev s.T x with
     | .pt id ver i o=>match AJ s.H id ver with
      | some _=>some (.pt id ver i (o+off))
      | none=>none
     | .vp es i o=>some (.vp es i (o+off))
     | _=>none
    | none=>none
   | none=>none
  | none=>none
 | .field st x f=>match AR P st with
  | some d=>match d.flds[f]? with
   | some (off,ft)=>match AR P ft with
    | some df=>match ev s.T x with
     | .ag cs=>DZ df cs off
     | _=>none
    | none=>none
   | none=>none
  | none=>none
 | .indexAddr t x i=>match AR P t with
  | some d=>match d.el with
   | some el=>match AR P el with
    | some de=>match d.len,ev s.T x,ev s.T i with
     | none,.vw _ es,.sc (.int _ n)=>match (if 0≤n then es[n.toNat]? else none) with
      | some e=>if e.cells.length=de.sz then some (.vp es n.toNat 0) else none
      | none=>none
     | none,.sl id ver lo len,.sc (.int _ n)=>match AJ s.H id ver with
      | some B=>if 0≤n∧n < (len:Int)∧B.esz=de.sz then some (.pt id ver (lo+n.toNat) 0) else none
      | none=>none
     | some m,.pt id ver k o,.sc (.int _ n)=>match AJ s.H id ver with
      | some _=>if 0≤n∧n < (m:Int) then some (.pt id ver k (o+n.toNat * de.sz)) else none
      | none=>none
     | some m,.vp es k o,.sc (.int _ n)=>if 0≤n∧n < (m:Int) then some (.vp es k (o+n.toNat * de.sz)) else none
     | _,_,_=>none
    | none=>none
   | none=>none
  | none=>none
 | .index t x i=>match AR P t with
  | some d=>match d.el,d.len with
   | some el,some m=>match AR P el with
    | some de=>match ev s.T x,ev s.T i with
     | .ag cs,.sc (.int _ n)=>if 0≤n∧n < (m:Int) then DZ de cs (n.toNat * de.sz) else none
     | _,_=>none
    | none=>none
   | none,none=>match Bp (ev s.T x),Bp (ev s.T i) with
    | some a,some b=>match Bh P (Instr.index t a b) with
     | some v=>some (LX v)
     | none=>none
    | _,_=>none
   | _,_=>none
  | none=>none
 | .slice t x lo hi mx=>match AR P t with
  | some d=>match d.el,d.len with
   | some el,none=>match AR P el with
    | some de=>match ev s.T x with
     | .vw z es=>match AS s.T mx es.length es.length with
      | some m=>match AS s.T hi es.length m with
       | some h=>match AS s.T lo 0 h with
        | some l=>if es.all (fun e=>e.cells.length=de.sz)=true∧(mx.isSome=true→hi.isSome=true) then some (.vw (if mx.isSome then decide (m=h) else (z && decide (h=es.length))) ((es.drop l).take (h - l))) else none
        | none=>none
       | none=>none
      | none=>none
     | .sl id ver lo' len=>match mx,AJ s.H id ver with
      | none,some B=>match AS s.T hi len len with
       | some h=>match AS s.T lo 0 h with
        | some l=>if B.esz=de.sz then some (.sl id ver (lo'+l) (h - l)) else none
        | none=>none
       | none=>none
      | some _,some B=>if AS s.T mx len len=some 0∧hi.isSome=true∧AS s.T hi len 0=some 0∧AS s.T lo 0 0=some 0 then some (.vw true []) else none
      | _,_=>none
     | _=>none
    | none=>none
   | some el,some m=>match AR P el,ev s.T x,lo,mx with
    | some de,.vp es i off,none,none=>match es[i]?,AS s.T hi m m with
     | some e,some h=>if de.sz=1∧off+m≤e.cells.length∧m≤1000000∧e.cells.all (fun a=>a.cells.length=1)=true then some (.vw false ((e.cells.drop off).take h)) else none
     | _,_=>none
    | _,_,_,_=>none
   | none,none=>match Bp (ev s.T x),D8 s.T lo,D8 s.T hi,D8 s.T mx with
    | some a,some l,some h,some m=>match Bh P (Instr.sliceAt t a l h m) with
     | some v=>some (LX v)
     | none=>none
    | _,_,_,_=>none
   | _,_=>none
  | none=>none
 | .extract x i=>match ev s.T x with
  | .tu vs=>vs[i]?
  | _=>none
 | .makeFunc (.func f) first caps=>if first.isEmpty=true then some (.fn f (caps.toList.map (ev s.T))) else none
 | .build t parts=>match AR P t with
  | some d=>match d.zero with
   | some z=>match Ax z with
    | .ag zs=>match d.len,d.el with
     | some _,some el=>match AR P el with
      | some de=>match Fa (fun i=>some (i * de.sz,de.sz)) zs (parts.toList.map fun p=>(p.1,ev s.T p.2)) with
       | some cs=>some (.ag cs)
       | none=>none
      | none=>none
     | none,none=>if d.agg=true then
       match d.flds.mapM (fun f=>(AR P f.2).map fun df=>(f.1,df.sz)) with
       | some places=>match Fa (fun i=>places[i]?) zs (parts.toList.map fun p=>(p.1,ev s.T p.2)) with
        | some cs=>some (.ag cs)
        | none=>none
       | none=>none
      else none
     | _,_=>none
    | _=>none
   | none=>none
  | none=>none
 | .call { callee:=.builtin .len,args,argTypes }=>match argTypes.toList,args.toList with
  | [t],[x]=>match AR P t with
   | some d=>match d.el,d.len with
    | some _,none=>match Aam s.H (ev s.T x) with
     | some n=>some (.sc (.int .i64 n))
     | none=>none
    | some _,some m=>some (.sc (.int .i64 m))
    | none,none=>match Bp (ev s.T x) with
     | some a=>match Bh P (Builtin.len_ argTypes 0 #[a]) with
      | some v=>some (LX v)
      | none=>none
     | none=>none
    | _,_=>none
   | none=>none
  | _,_=>none
 | .call { callee:=.builtin .min,args,argTypes }=>match C7 (args.toList.map (ev s.T)) with
  | some l=>match Bh P (Builtin.min_ argTypes 0 l.toArray) with
   | some v=>some (LX v)
   | none=>none
  | none=>none
 | .call { callee:=.builtin .max,args,argTypes }=>match C7 (args.toList.map (ev s.T)) with
  | some l=>match Bh P (Builtin.max_ argTypes 0 l.toArray) with
   | some v=>some (LX v)
   | none=>none
  | none=>none
 | _=>none
def EN (s:St) (o:Op):Option (Nat × List AV):=
 match o with
 | .call { callee:=.value f,args,.. }=>match ev s.T f with
  | .fn g caps=>some (g,args.toList.map (ev s.T)++caps)
  | _=>none
 | _=>none
def Bk:Op→Bool
 | .call { callee:=.value _,.. }=>true
 | _=>false
def L7 (H:List Blk):AV→Option (List AV)
 | .vw _ es=>if es.all (·.noref)=true then some es else none
 | .sl id ver lo len=>(AJ H id ver).map fun B=>(B.els.drop lo).take len
 | .sc (.slice _ 0 _)=>some []
 | _=>none
def BQ (H:List Blk) (x:AV):List Blk:=
 match x with
 | .sl id _ _ _=>match H[id]? with
  | some B=>if B.tmp=true∧id+1=H.length then H.dropLast else H
  | none=>H
 | _=>H
def Aw (P:Program) (s:St) (o:Op) (dst:Option Nat):Option St:=
 match o with
 | .box t x=>let v:=ev s.T x
  if v.stor=true then some (St.put { s with H:=s.H++[⟨true,s.cnt,t,v.cells.length,[v],false⟩],cnt:=s.cnt+1 } dst (.pt s.H.length s.cnt 0 0)) else none
 | .alloc t=>match AR P t with
  | some d=>match d.zero with
   | some z=>if (Ax z).stor=true then some (St.put { s with H:=s.H++[⟨true,s.cnt,t,(Ax z).cells.length,[Ax z],false⟩],cnt:=s.cnt+1 } dst (.pt s.H.length s.cnt 0 0)) else none
   | none=>none
  | none=>none
 | .store t a x=>match AR P t,ev s.T a with
  | some d,.pt id ver i off=>let v:=ev s.T x
   match AJ s.H id ver with
   | some B=>match B.els[i]? with
    | some e=>if v.stor=true∧v.cells.length=d.sz∧0 < d.sz then
      match e.setC off v.cells with
      | some e'=>some (St.put { s with H:=s.H.set id { B with els:=B.els.set i e' } } dst .un)
      | none=>none
     else none
    | none=>none
   | none=>none
  | _,_=>none
 | .buildSlice t len parts=>match AR P t with
  | some d=>match d.el,d.len with
   | some el,none=>match AR P el with
    | some de=>match de.zero with
     | some z=>match G5 de.sz (List.replicate len (Ax z)) (parts.toList.map fun p=>(p.1,ev s.T p.2)) with
      | some es=>if (Ax z).stor=true∧(Ax z).cells.length=de.sz∧0 < de.sz∧len * de.sz≤16777216 then
        some (St.put { s with H:=s.H++[⟨true,s.cnt,el,de.sz,es,true⟩],cnt:=s.cnt+1 } dst (.sl s.H.length s.cnt 0 len)) else none
      | none=>none
     | none=>none
    | none=>none
   | _,_=>none
  | none=>none
 | .makeSlice t l c=>match AR P t with
  | some d=>match d.el,d.len with
   | some el,none=>match AR P el with
    | some de=>match de.zero,ev s.T l,ev s.T c with
     | some z,.sc (.int _ n),.sc (.int _ m)=>
      if (Ax z).stor=true∧(Ax z).cells.length=de.sz∧0 < de.sz∧0 < de.bytes∧0≤n∧n≤m∧m * de.bytes≤140737488355328 then
       some (St.put { s with H:=s.H++[⟨true,s.cnt,el,de.sz,List.replicate n.toNat (Ax z),false⟩],cnt:=s.cnt+1 } dst (.sl s.H.length s.cnt 0 n.toNat)) else none
     | _,_,_=>none
    | none=>none
   | _,_=>none
  | none=>none
 | .call { callee:=.builtin .append,args,argTypes }=>match argTypes.toList,args.toList with
  | [t,t'],[x,y]=>if t=t' then match AR P t with
   | some d=>match d.el,d.len with
    | some el,none=>match AR P el with
     | some de=>match de.zero,L7 s.H (ev s.T y) with
      | some z,some ys=>
       if 0 < de.sz∧0 < de.bytes∧z.cells.size=de.sz∧ys.all (fun e=>e.cells.length=de.sz)=true then
        match ev s.T x with
        | .vw true []=>if ys.length * de.bytes≤140737488355328 then
          let H1:=BQ s.H (ev s.T y)
          some (St.put { s with H:=H1++[⟨true,s.cnt,el,de.sz,ys,false⟩],cnt:=s.cnt+1 } dst (.sl H1.length s.cnt 0 ys.length)) else none
        | .sl id ver lo len=>match AJ (BQ s.H (ev s.T y)) id ver with
         | some B=>if B.esz=de.sz∧B.ty=el∧(len+ys.length) * de.bytes≤140737488355328 then
           let H1:=BQ s.H (ev s.T y)
           some (St.put { s with H:=H1.set id ⟨true,s.cnt,el,de.sz,(B.els.drop lo).take len++ys,false⟩,cnt:=s.cnt+1 } dst (.sl id s.cnt 0 (len+ys.length))) else none
         | none=>none
        | _=>none
       else none
      | _,_=>none
     | none=>none
    | _,_=>none
   | none=>none
   else none
  | _,_=>none
 | .call { callee:=.builtin .copy,args,argTypes }=>match argTypes.toList,args.toList with
  | [t,_],[x,y]=>match AR P t with
   | some d=>match d.el,d.len with
    | some el,none=>match AR P el with
     | some de=>match ev s.T x,L7 s.H (ev s.T y) with
      | .sl id ver lo len,some ys=>match AJ s.H id ver with
       | some B=>if 0 < de.sz∧B.esz=de.sz∧ys.all (fun e=>e.cells.length=de.sz)=true then
         some (St.put { s with H:=s.H.set id { B with els:=B.els.take lo++ys.take (min ys.length len)++B.els.drop (lo+min ys.length len) } } dst (.sc (.int .i64 (min ys.length len:Nat)))) else none
       | none=>none
      | _,_=>none
     | none=>none
    | _,_=>none
   | none=>none
  | _,_=>none
 | .call { callee:=.builtin .clear,args,argTypes }=>match argTypes.toList,args.toList with
  | [t],[x]=>match AR P t with
   | some d=>match d.el,d.len with
    | some el,none=>match AR P el with
     | some de=>match de.zero,ev s.T x with
      | some z,.sl id ver lo len=>match AJ s.H id ver with
       | some B=>if 0 < de.sz∧B.esz=de.sz∧(Ax z).stor=true∧(Ax z).cells.length=de.sz then
         some (St.put { s with H:=s.H.set id { B with els:=B.els.take lo++List.replicate len (Ax z)++B.els.drop (lo+len) } } dst (.tu [])) else none
       | none=>none
      | _,_=>none
     | none=>none
    | _,_=>none
   | none=>none
  | _,_=>none
 | _=>none
def isHeapOp:Op→Bool
 | .box .. | .alloc _ | .store .. | .buildSlice .. | .makeSlice ..=>true
 | .call { callee:=.builtin .append,.. } | .call { callee:=.builtin .copy,.. } | .call { callee:=.builtin .clear,.. }=>true
 | _=>false
def BY (hc:Nat→Bool):Op→Bool
 | .box .. | .alloc _ | .store .. | .buildSlice .. | .makeSlice ..=>true
 | .call ⟨.builtin .append,_,_⟩ | .call ⟨.builtin .copy,_,_⟩ | .call ⟨.builtin .clear,_,_⟩=>true
 | .call ⟨.value (.func g),_,_⟩=>hc g
 | _=>false
theorem Acy {hc:Nat→Bool} {o:Op} (h:isHeapOp o=true):BY hc o=true:=by
 unfold isHeapOp at h
 split at h <;> first | rfl | cases h
theorem Acz {hc:Nat→Bool} {o:Op} (h:BY hc o=false):isHeapOp o=false:=by
 cases hq:isHeapOp o with
 | false=>rfl
 | true=>rw [Acy hq] at h; cases h
def Jv (P:Program) (E:Env) (s:St) (o:Op):Option AV:=
 if Bk o=true then
  match EN s o with
  | some (g,args)=>E.pcall g (args.map (Am s.H))
  | none=>none
 else Ay P s o
def Fe (P:Program) (E:Env) (s:St) (o:Oper):Option St:=
 if Bk o.op=true then
  match EN s o.op with
  | some (g,args)=>match E.hcall g args s.H s.cnt with
   | some (r,H',cnt')=>some (St.put { s with H:=H',cnt:=cnt' } o.dst r)
   | none=>none
  | none=>none
 else Aw P s o.op o.dst
def AQ (E:Env) (s:St) (o:Op):Bool:=
 if Bk o then (match EN s o with | some (g,_)=>E.isP g | none=>true) else !isHeapOp o
def Ao (all:Array Oper) (s:St) (j:Nat):AV:=
 match (all[j]?).bind (·.dst) with
 | some d=>s.T.getD d .un
 | none=>.un
def Ag (P:Program) (E:Env) (all:Array Oper) (s:St) (o:Oper):Option St:=
 match o.guard with
 | none=>if AQ E s o.op=true then (Jv P E s o.op).map (s.put o.dst) else Fe P E s o
 | some (j,want)=>match Ao all s j with
  | .sc (.bool b)=>
   if AQ E s o.op=true then (if b=want then Jv P E s o.op else some .un).map (s.put o.dst)
   else if b=want then Fe P E s o else some (s.put o.dst .un)
  | .un=>some (s.put o.dst .un)
  | _=>none
def Cs:List Blk→List AV
 | []=>[]
 | [B]=>B.els
 | _::B::r=>Cs (B::r)
def Cl:Op→Bool
 | .makeSlice .. | .buildSlice ..=>true
 | _=>false
def Ah6 (s:St) (dst:Option Nat):Option St→Option St
 | some s1=>if norefs (Cs s1.H)=true then some (St.put ⟨s.T,s.H,s.cnt+1⟩ dst (.vw false (Cs s1.H))) else none
 | none=>none
def Ei (P:Program) (s:St) (o:Op) (dst:Option Nat):Option St:=Ah6 s dst (Aw P s o dst)
def Fb (l:Bool) (o:Oper) (x y:Option St):Option St:=if (l && Cl o.op && o.guard.isNone)=true then y else x
def Ej (P:Program) (E:Env) (all:Array Oper) (s:St) (o:Oper):Option St:=Fb E.lit o (Ag P E all s o) (Ei P s o.op o.dst)
def Ff (P:Program) (E:Env) (all:Array Oper):List Oper→St→Option St
 | [],s=>some s
 | o::r,s=>match Ej P E all s o with
  | some s'=>Ff P E all r s'
  | none=>none
def Dm (P:Program) (E:Env) (all:Array Oper):List Oper→St→Option St
 | [],s=>some s
 | o::r,s=>if AQ E s o.op=true then
   match Ag P E all s o with
   | some s'=>Dm P E all r s'
   | none=>none
  else none
def VL (w:World) (X:Nat→Prop) (o:Option HC) (as:List AV) (vs:List Value):Prop:=
 as.length=vs.length∧∀ (i:Nat) (a:AV) (v:Value),as[i]?=some a→vs[i]?=some v→VR w X o a v
section
variable {w:World} {X:Nat→Prop} {o:Option HC}
theorem VL.nil:VL w X o [] []:=⟨rfl,fun i a v h=>by simp at h⟩
theorem VL.cons {a v as vs} (h:VR w X o a v) (hs:VL w X o as vs):VL w X o (a::as) (v::vs):=by
 refine ⟨by simp [hs.1],fun i b u hb hu=>?_⟩
 cases i with
 | zero=>simp at hb hu; subst hb; subst hu; exact h
 | succ i=>simp at hb hu; exact hs.2 i b u hb hu
theorem VL.head {a v as vs} (h:VL w X o (a::as) (v::vs)):VR w X o a v:=h.2 0 a v rfl rfl
theorem VL.tail {a v as vs} (h:VL w X o (a::as) (v::vs)):VL w X o as vs:=
 ⟨by simpa using h.1,fun i b u hb hu=>h.2 (i+1) b u (by simpa using hb) (by simpa using hu)⟩
theorem VL.uncons {a as l} (h:VL w X o (a::as) l):∃ v vs,l=v::vs∧VR w X o a v∧VL w X o as vs:=by
 cases l with
 | nil=>simp [VL] at h
 | cons v vs=>exact ⟨v,vs,rfl,h.head,h.tail⟩
theorem VL.unnil {l} (h:VL w X o [] l):l=[]:=by
 cases l with
 | nil=>rfl
 | cons v vs=>simp [VL] at h
theorem VL.append {as vs bs us} (h:VL w X o as vs) (k:VL w X o bs us):VL w X o (as++bs) (vs++us):=by
 refine ⟨by simp [h.1,k.1],fun i b u hb hu=>?_⟩
 rw [lx18] at hb hu
 rw [h.1] at hb
 split at hb
 ·rename_i hi; rw [if_pos hi] at hu; exact h.2 i b u hb hu
 ·rename_i hi; rw [if_neg hi] at hu; exact k.2 _ b u hb hu
theorem VL.take {as vs} (n:Nat) (h:VL w X o as vs):VL w X o (as.take n) (vs.take n):=by
 refine ⟨by simp [h.1],fun i b u hb hu=>?_⟩
 rw [lx19] at hb hu
 split at hb
 ·rename_i hi; rw [if_pos hi] at hu; exact h.2 i b u hb hu
 ·cases hb
theorem VL.drop {as vs} (n:Nat) (h:VL w X o as vs):VL w X o (as.drop n) (vs.drop n):=by
 refine ⟨by simp [h.1],fun i b u hb hu=>?_⟩
 rw [lx20] at hb hu
 exact h.2 _ b u hb hu
theorem VL.set {as vs a v} (n:Nat) (h:VL w X o as vs) (hv:VR w X o a v):VL w X o (as.set n a) (vs.set n v):=by
 refine ⟨by simp [h.1],fun i b u hb hu=>?_⟩
 rw [lx21] at hb hu
 rw [h.1] at hb
 split at hb
 ·rename_i hi
  rw [if_pos hi] at hu
  split at hb
  ·rename_i hl
   rw [if_pos hl] at hu
   simp at hb hu; subst hb; subst hu; exact hv
  ·cases hb
 ·rename_i hi; rw [if_neg hi] at hu; exact h.2 i b u hb hu
theorem VL.get {as vs} (h:VL w X o as vs) {i:Nat} {a:AV} (ha:as[i]?=some a):∃ v,vs[i]?=some v∧VR w X o a v:=by
 have hi:i < as.length:=(lx22.1 ha).1
 rw [h.1] at hi
 exact ⟨vs[i],by simp [hi],h.2 i a _ ha (by simp [hi])⟩
theorem VL.map_av {α:Type} {l:List α} {f:α→AV} {g:α→Value} (h:∀ x ∈ l,VR w X o (f x) (g x)):VL w X o (l.map f) (l.map g):=by
 refine ⟨by simp,fun i a v ha hv=>?_⟩
 simp only [lx23,lx24] at ha hv
 obtain ⟨x,hx,rfl⟩:=ha
 obtain ⟨y,hy,rfl⟩:=hv
 rw [hx] at hy; cases hy
 exact h x (lx25 hx)
end
mutual
theorem EO {w X o}:∀ (a:AV) {u v:Value},Bp a=some u→VR w X o a v→v=u
 | .sc x,u,v,h,hv=>by cases hv; simpa [Bp] using h
 | .ag cs,u,v,h,hv=>by
  cases hv with
  | ag hl h1 h2=>
   exact Auu
 | .tu cs,u,v,h,hv=>by
  cases hv with
  | tu hl h1=>
   exact Auu
 | .pt ..,_,_,h,_=>by simp [Bp] at h
 | .sl ..,_,_,h,_=>by simp [Bp] at h
 | .vw ..,_,_,h,_=>by simp [Bp] at h
 | .vp ..,_,_,h,_=>by simp [Bp] at h
 | .fn ..,_,_,h,_=>by simp [Bp] at h
 | .un,_,_,h,_=>by simp [Bp] at h
 | .jk,_,_,h,_=>by simp [Bp] at h
theorem QN {w X o}:∀ (as:List AV) {us vs:List Value},C7 as=some us→VL w X o as vs→vs=us
 | [],us,vs,h,hv=>by simp [C7] at h; rw [hv.unnil,h]
 | a::r,us,vs,h,hv=>by
  obtain ⟨v,vs',rfl,hv1,hv2⟩:=hv.uncons
  simp only [C7] at h
  split at h
  ·rename_i x l hx hl
   simp only [lx16] at h
   rw [←h,EO a hx hv1,QN r hl hv2]
  ·cases h
end
theorem Th {w X o} (v:Value):VR w X o (Li v) v:=by
 unfold Li
 split
 ·exact .vw0 (fun _=>rfl) (Bq _)
 ·split
  ·rename_i f first cap h
   simp only [AH,Array.isEmpty_iff] at h
   obtain ⟨rfl,rfl⟩:=h
   exact .fn (vs:=[]) rfl (fun i a v h=>by simp at h)
  ·exact .sc rfl
 ·exact .jk
 ·exact .jk
 ·rename_i h1 h2 h3 h4
  refine .sc ?_
  cases v <;> first | rfl | exact absurd rfl (h3 _) | exact absurd rfl (h4 _)
theorem G6 {w X o} (v:Value):VR w X o (Ax v) v:=by
 unfold Ax
 split
 ·rename_i cs
  split
  ·rename_i h
   have:=VR.ag (w:=w) (X:=X) (o:=o) (cs:=cs.toList.map Li) (vs:=cs.toList) (by simp) ?_ ?_
   ·simpa using this
   ·intro i a v ha hv
    simp only [lx23,lx24] at ha
    obtain ⟨x,hx,rfl⟩:=ha
    rw [hv] at hx; cases hx
    exact Th v
   ·intro v hv
    exact lx28.1 h v hv
  ·exact .jk
 ·exact Th v
theorem U4 {w X o} (v:Value):VR w X o (LX v) v:=by
 unfold LX
 split
 ·rename_i vs
  split
  ·rename_i h
   rw [Array.isEmpty_iff] at h
   subst h
   exact .un
  ·have:=VR.tu (w:=w) (X:=X) (o:=o) (cs:=vs.toList.map Ax) (vs:=vs.toList) (by simp) ?_
   ·simpa using this
   ·intro i a v ha hv
    simp only [lx23,lx24] at ha
    obtain ⟨x,hx,rfl⟩:=ha
    rw [hv] at hx; cases hx
    exact G6 v
 ·exact G6 v
theorem VR.cells_ok {w X o a v} (h:VR w X o a v) (hs:a.stor=true):VL w X o a.cells v.cells.toList∧∀ u ∈ v.cells.toList,u.oneCell'=true:=by
 have one:∀ {b:AV} {u:Value},VR w X o b u→u.oneCell'=true→b.cells=[b]→VL w X o b.cells u.cells.toList∧∀ x ∈ u.cells.toList,x.oneCell'=true:=by
  intro b u hb hu hc
  have:u.cells=#[u]:=by cases u <;> first | rfl | (simp [Value.oneCell'] at hu)
  rw [hc,this]
  exact ⟨.cons hb .nil,fun x hx=>by simp at hx; rw [hx]; exact hu⟩
 cases h with
 | sc h=>exact one (.sc h) h rfl
 | un=>simp [AV.stor] at hs
 | jk=>simp [AV.stor] at hs
 | ag hl h1 h2=>exact ⟨⟨by simpa [AV.cells,Value.cells] using hl,by simpa [AV.cells,Value.cells] using h1⟩,by simpa [Value.cells] using h2⟩
 | tu hl h1=>simp [AV.stor] at hs
 | pt h1 h2=>exact one (.pt h1 h2) h1 rfl
 | sl h1 h2=>exact one (.sl h1 h2) (Ayx h1) rfl
 | vw0 hz hm=>exact one (.vw0 hz hm) rfl rfl
 | vw1 f hne hX hb hcap hz hmax hsz hcl hv=>exact one (.vw1 f hne hX hb hcap hz hmax hsz hcl hv) rfl rfl
 | vp f hX hb hsz hcl hv=>exact one (.vp f hX hb hsz hcl hv) rfl rfl
 | fn hl h1=>exact one (.fn hl h1) rfl rfl
mutual
theorem F7 {w X}:∀ (a:AV) {v:Value} {o:Option HC},a.noref=true→VR w X none a v→VR w X o a v
 | .sc x,v,o,_,h=>by cases h with | sc h=>exact .sc h
 | .ag cs,v,o,hn,h=>by
  cases h with
  | ag hl h1 h2=>exact .ag hl (H7 cs (by simpa [AV.noref] using hn) ⟨hl,h1⟩).2 h2
 | .tu cs,v,o,hn,h=>by
  cases h with
  | tu hl h1=>exact .tu hl (H7 cs (by simpa [AV.noref] using hn) ⟨hl,h1⟩).2
 | .fn f cs,v,o,hn,h=>by
  cases h with
  | fn hl h1=>exact .fn hl (H7 cs (by simpa [AV.noref] using hn) ⟨hl,h1⟩).2
 | .pt ..,_,_,hn,_=>by simp [AV.noref] at hn
 | .sl ..,_,_,hn,_=>by simp [AV.noref] at hn
 | .vw ..,v,o,_,h=>by
  cases h with
  | vw0 hz hm=>exact .vw0 hz hm
  | vw1 f hne hX hb hcap hz hmax hsz hcl hv=>exact .vw1 f hne hX hb hcap hz hmax hsz hcl hv
 | .vp ..,v,o,_,h=>by cases h with | vp f hX hb hsz hcl hv=>exact .vp f hX hb hsz hcl hv
 | .un,_,_,_,h=>by cases h; exact .un
 | .jk,_,_,_,_=>.jk
theorem H7 {w X}:∀ (as:List AV) {vs:List Value} {o:Option HC},norefs as=true→VL w X none as vs→VL w X o as vs
 | [],vs,o,_,h=>by rw [h.unnil]; exact .nil
 | a::r,vs,o,hn,h=>by
  obtain ⟨v,vs',rfl,h1,h2⟩:=h.uncons
  simp only [norefs,AH] at hn
  exact .cons (F7 a hn.1 h1) (H7 r hn.2 h2)
end
def St.hc (s:St) (loc:Nat→Option (Nat × Nat)):HC:=⟨loc,s.H,s.cnt⟩
structure SR (w:World) (X:Nat→Prop) (loc:Nat→Option (Nat × Nat)) (s:St) (a:Act):Prop where
 hr:HR w X (s.hc loc)
 tm:VL w X (some (s.hc loc)) s.T a.tmps.toList
 df:a.defers=[]
theorem BV {w X o} {T:List AV} {a:Act} (h:VL w X o T a.tmps.toList) (x:Operand):VR w X o (ev T x) (a.eval x):=by
 cases x with
 | tmp t=>
  simp only [ev,Act.eval]
  have hlen:T.length=a.tmps.size:=h.1.trans lx29
  by_cases ht:t < T.length
  ·have h':t < a.tmps.size:=hlen ▸ ht
   have:=h.2 t T[t] a.tmps[t] (by simp [ht]) (by simp [h'])
   simpa [List.getD,ht,h'] using this
  ·have h':¬ t < a.tmps.size:=hlen ▸ ht
   simp only [List.getD,lx30 (Nat.le_of_not_lt ht),Array.getD,h',dite_false,Option.getD_none]
   exact .un
 | const v=>exact U4 v
 | global g=>exact .jk
 | func f=>exact .fn (vs:=[]) rfl (fun i a v h=>by simp at h)
theorem Aan {w X o} {T:List AV} {a:Act} (h:VL w X o T a.tmps.toList) (xs:List Operand):VL w X o (xs.map (ev T)) (xs.map a.eval):=
 VL.map_av fun x _=>BV h x
theorem SR.put {w X loc s a} (h:SR w X loc s a) (d:Option Nat) {v:AV} {c:Value} (hv:VR w X (some (s.hc loc)) v c):SR w X loc (s.put d v) (a.put d c):=by
 cases d with
 | none=>exact h
 | some d=>
  refine ⟨h.hr,?_,h.df⟩
  have:=h.tm.set d hv
  simpa [St.put,Act.put,St.hc] using this
section
variable {P:Program} {w:World}
theorem H8 (a:Addr) (f:Nat→Value):∀ (n i:Nat) (acc:Array Value),(∀ j,j < n→w.cell? (a.add (i+j))=some (f (i+j)))→
  rd P (loadCellsFrom a i n acc) w=some (acc++((List.range n).map fun j=>f (i+j)).toArray)
 | 0,i,acc,_=>by simp [loadCellsFrom,Al]
 | n+1,i,acc,h=>by
  have h0:=h 0 (by omega)
  simp only [Gl] at h0
  have ih:=H8 a f n (i+1) (acc.push (f i)) (fun j hj=>by have:=h (j+1) (by omega); rwa [show i+(j+1)=i+1+j by omega] at this)
  simp only [loadCellsFrom,Ah,Acx,h0,lx17,ih]
  congr 1
  apply Array.ext'
  simp only [Array.toList_append,Array.toList_push,lx6,List.range_succ_eq_map,lx31,List.map_map,Gl,List.singleton_append]
  congr 2
  apply List.map_congr_left
  intro j _
  simp [F0,Nat.add_comm 1 j]
theorem Bl {t:TypeId} {d:TyD} (h:AR P t=some d):∃ i u,P.info? t=some i∧P.underlying t=some u∧i.size=d.sz∧i.bytes=d.bytes∧i.zero=d.zero∧
  (d.agg=match u with | .struct _ | .array _ _=>true | _=>false)∧
  (∀ el,d.el=some el→d.len=none→u=.slice el)∧(∀ el n,d.el=some el→d.len=some n→u=.array n el)∧
  (d.len=none→d.el=none→d.agg=true→∃ fs,u=.struct fs∧d.flds=fs.toList.map fun f=>(f.offset,f.type)):=by
 unfold AR at h
 split at h
 ·rename_i i fs h1 h2; cases h; exact ⟨i,_,h1,h2,rfl,rfl,rfl,rfl,by simp,by simp,fun _ _ _=>⟨fs,rfl,rfl⟩⟩
 ·rename_i i n e h1 h2; cases h; exact ⟨i,_,h1,h2,rfl,rfl,rfl,rfl,by simp,by simp,by simp⟩
 ·rename_i i e h1 h2; cases h; exact ⟨i,_,h1,h2,rfl,rfl,rfl,rfl,by simp,by simp,by simp⟩
 ·rename_i i u hns hna hnl h1 h2
  cases h
  refine ⟨i,u,h1,h2,rfl,rfl,rfl,?_,by simp,by simp,by simp⟩
  cases u <;> first | rfl | exact absurd rfl (hns _) | exact absurd rfl (hna _ _)
 ·cases h
theorem WT {t:TypeId} {d:TyD} (h:AR P t=some d):rd P (isAgg t) w=some d.agg:=by
 obtain ⟨i,u,h1,h2,_,_,_,h3,_⟩:=Bl h
 unfold isAgg
 rw [Ah,Ar,h2,h3]
 simp only [lx17]
 cases u <;> rfl
theorem Hx {t:TypeId} {d:TyD} (h:AR P t=some d):rd P (sizeOf t) w=some d.sz:=by
 obtain ⟨i,u,h1,h2,h3,_⟩:=Bl h
 rw [NF,h1]; simp [h3]
theorem F8 (b p j:Nat):(⟨b,p,none⟩:Addr).add j=⟨b,p+j,none⟩:=Addr.add_lit b p j
theorem Ad0 {X:Nat→Prop} {o:Option HC} {t:TypeId} {d:TyD} (ht:AR P t=some d) {cs:List AV} {b p off:Nat} {f:Nat→Value} {v:AV}
  (hc:∀ j a,cs[j]?=some a→w.cell? ⟨b,p+j,none⟩=some (f j)∧(f j).oneCell'=true∧VR w X o a (f j)) (h:DZ d cs off=some v):
  ∃ c,rd P (loadVar t ⟨b,p+off,none⟩) w=some c∧VR w X o v c:=by
 unfold DZ at h
 unfold loadVar
 simp only [Ah,WT ht,lx17]
 split at h
 ·rename_i hag
  split at h
  ·rename_i hl
   cases h
   have hcell:∀ j,j < d.sz→w.cell? (⟨b,p+off,none⟩:Addr)=w.cell? ⟨b,p+off,none⟩:=fun _ _=>rfl
   have hr:=H8 (P:=P) (w:=w) ⟨b,p+off,none⟩ (fun j=>f (off+j)) d.sz 0 #[] (fun j hj=>by
    rw [F8]
    have hj':off+j < cs.length:=An
    have:=(hc (off+j) cs[off+j] (by simp [hj'])).1
    simpa [F0] using this)
   refine ⟨.agg ((List.range d.sz).map fun j=>f (off+j)).toArray,?_,?_⟩
   ·simp only [hag,lx8,Ah,Hx ht,lx17,loadCells,hr,Al]
    simp
   ·refine .ag (by simp; omega) ?_ ?_
    ·intro i a u ha hu
     simp only [lx19,lx20] at ha
     split at ha
     ·rename_i hi
      simp only [lx23,SS hi,lx34,lx16] at hu
      rw [←hu]
      exact (hc _ a ha).2.2
     ·cases ha
    ·intro u hu
     simp only [lx35,Hr] at hu
     obtain ⟨j,hj,rfl⟩:=hu
     have hj':off+j < cs.length:=An
     exact (hc (off+j) cs[off+j] (by simp [hj'])).2.1
  ·cases h
 ·rename_i hag
  obtain ⟨h1,h2,h3⟩:=hc off v h
  refine ⟨f off,?_,h3⟩
  simp only [hag,lx9,DD]
  rw [Acx,h1]
end
theorem Bc {H:List Blk} {id ver:Nat} {B:Blk} (h:AJ H id ver=some B):H[id]?=some B∧B.live=true∧B.ver=ver:=by
 unfold AJ at h
 split at h
 ·rename_i B' hB
  split at h
  ·rename_i hh; cases h; exact ⟨hB,hh.1,hh.2⟩
  ·cases h
 ·cases h
theorem Gy {w X hc id ver i off v B} (hr:HR w X hc) (hv:VR w X (some hc) (.pt id ver i off) v) (hl:AJ hc.H id ver=some B):
  ∃ b base,hc.loc id=some (b,base)∧v=.pointer (some ⟨b,base+i * B.esz+off,none⟩)∧X b∧(∃ cs,w.heap[b]?=some (.cells cs B.ty (0,0)))∧ElsOk w X hc b base B:=by
 obtain ⟨h1,h2,h3⟩:=Bc hl
 cases hv with
 | pt g1 g2=>
  obtain ⟨_,k2⟩:=g2 hc rfl
  obtain ⟨b,base,e1,e2⟩:=k2 B h1 h2 h3
  have:=(hr.blk id B h1 h2).2.2
  rw [e1] at this
  exact ⟨b,base,e1,e2,this.1,this.2.1,this.2.2⟩
theorem ElsOk.fn {w X hc b base B} (h:ElsOk w X hc b base B) {i:Nat} {e:AV} (he:B.els[i]?=some e):
  ∀ j a,e.cells[j]?=some a→w.cell? ⟨b,base+i * B.esz+j,none⟩=some ((w.cell? ⟨b,base+i * B.esz+j,none⟩).getD undef)∧
   ((w.cell? ⟨b,base+i * B.esz+j,none⟩).getD undef).oneCell'=true∧VR w X (some hc) a ((w.cell? ⟨b,base+i * B.esz+j,none⟩).getD undef):=by
 intro j a ha
 obtain ⟨c,h1,h2,h3⟩:=(h i e he).2 j a ha
 rw [h1]
 exact ⟨rfl,h2,h3⟩
end Go.SX
