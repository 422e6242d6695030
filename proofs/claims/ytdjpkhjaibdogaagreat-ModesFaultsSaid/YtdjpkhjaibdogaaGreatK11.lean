/-
  Lemmas towards ModesFaults (joined texts: SXB, SXC).
  Conditions: none.
-/
import Derived.Test.YtdjpkhjaibdogaaGreatK01
import Derived.Test.YtdjpkhjaibdogaaGreatK10
set_option linter.unusedSimpArgs false
set_option linter.unusedVariables false
set_option maxRecDepth 100000
namespace Go.SX
open Go.RowKit (Below)
inductive Vc (P:Program) (E:Env) (n0:Nat) (rs:List ResultVar) (R:AV→St→Prop):List Item→St→Prop
 | ret {k s vs} (h:CP P s rs=some vs) (hR:R (Gp vs) s):Vc P E n0 rs R (.code .ret::k) s
 | fin {s vs} (h:CP P s rs=some vs) (hR:R (Gp vs) s):Vc P E n0 rs R [] s
 | skip {k s} (h:Vc P E n0 rs R k s):Vc P E n0 rs R (.code .skip::k) s
 | seq {k s x y} (h:Vc P E n0 rs R (.code x::.code y::k) s):Vc P E n0 rs R (.code (.seq x y)::k) s
 | cond {k s c x y} (t:Bool) (hc:ev s.T c=.sc (.bool t)) (h:Vc P E n0 rs R (.code (if t=true then x else y)::k) s):Vc P E n0 rs R (.code (.cond c x y)::k) s
 | block {k s id c} (h:Vc P E n0 rs R (.code c::.inBlock id::k) s):Vc P E n0 rs R (.code (.block id c)::k) s
 | inBlock {k s id} (h:Vc P E n0 rs R k s):Vc P E n0 rs R (.inBlock id::k) s
 | loop {k s c} (h:Go P E n0 rs R (.code (.loop c)::k) s):Vc P E n0 rs R (.code (.loop c)::k) s
 | inLoop {k s c} (h:Go P E n0 rs R (.inLoop c::k) s):Vc P E n0 rs R (.inLoop c::k) s
 | exit {k k' s id} (he:exitTo id k=some k') (h:Vc P E n0 rs R k' s):Vc P E n0 rs R (.code (.exit id)::k) s
 | region {k s s' id ops} (hr:Fv P E ops ops.toList s=some s') (h:Vc P E n0 rs R k s'):Vc P E n0 rs R (.code (.region id ops false)::k) s
 | draw {k s s' id ops} (hpm:E.perm id=none) (hr:Dp P E ops (·=s') ops.toList 0 s [] []) (h:Vc P E n0 rs R k s'):Vc P E n0 rs R (.code (.region id ops true)::k) s
 | drawP {k s s' id ops i π} (hpm:E.perm id=some (i::π)) (hr:Dp P E (Cq ops (i::π)) (·=s') (Cq ops (i::π)).toList 0 s [] []) (h:Vc P E n0 rs R k s'):Vc P E n0 rs R (.code (.region id ops true)::k) s
 | sem {k s id ops} (hpm:E.perm id=some []) (h:Go P E n0 rs R (.code (.region id ops true)::k) s):Vc P E n0 rs R (.code (.region id ops true)::k) s
section
variable {P:Program} {E:Env} {n0:Nat} {rs:List ResultVar} {R:AV→St→Prop}
theorem Aa {k s} (h:Vc P E n0 rs R k s):Go P E n0 rs R k s:=by
 induction h with
 | ret h hR=>exact .ret h hR
 | fin h hR=>exact .fin h hR
 | skip _ ih=>exact .skip ih
 | seq _ ih=>exact .seq ih
 | cond t hc _ ih=>exact .cond t hc ih
 | block _ ih=>exact .block ih
 | inBlock _ ih=>exact .inBlock ih
 | loop h=>exact h
 | inLoop h=>exact h
 | exit he _ ih=>exact .exit he ih
 | region hr _ ih=>exact .region hr ih
 | @draw k s s' id ops hpm hr _ ih=>
  cases hb:ops.toList.any Fb with
  | true=>exact .drawH hpm hb hr ih
  | false=>exact .draw hpm (Ea _ _ _ _ hb hr) ih
 | drawP hpm hr _ ih=>exact .drawP hpm hr ih
 | sem _ h=>exact h
def VcE (P:Program) (E:Env) (n0:Nat) (rs:List ResultVar) (R:AV→St→Prop) (s:St):Option (List Item)→Prop
 | some k=>Vc P E n0 rs R k s
 | none=>False
def VcC (P:Program) (E:Env) (n0:Nat) (rs:List ResultVar) (R:AV→St→Prop) (x y:Code) (k:List Item) (s:St):AV→Prop
 | .sc (.bool t)=>if t=true then Vc P E n0 rs R (.code x::k) s else Vc P E n0 rs R (.code y::k) s
 | _=>False
def VcO (P:Program) (E:Env) (n0:Nat) (rs:List ResultVar) (R:AV→St→Prop) (all:Array Oper) (r:List Oper) (k:List Item) (s:St):Prop:=
 ∃ s',Fv P E all r s=some s'∧Vc P E n0 rs R k s'
def VcS (P:Program) (E:Env) (n0:Nat) (rs:List ResultVar) (R:AV→St→Prop) (all:Array Oper) (r:List Oper) (k:List Item) (s:Option St):Prop:=
 ∃ s1,s=some s1∧VcO P E n0 rs R all r k s1
def VcR (R:AV→St→Prop) (s:St):Option (List AV)→Prop
 | some vs=>R (Gp vs) s
 | none=>False
variable {k:List Item} {s:St} {id:Nat}
theorem Aep:Vc P E n0 rs R (.code .ret::k) s=VcR R s (CP P s rs):=by
 apply propext; constructor
 ·intro h; cases h with | ret h hR=>rw [h]; exact hR
 ·intro h
  cases hv:CP P s rs with
  | none=>rw [hv] at h; exact h.elim
  | some vs=>rw [hv] at h; exact .ret hv h
theorem Aeq:Vc P E n0 rs R [] s=VcR R s (CP P s rs):=by
 apply propext; constructor
 ·intro h; cases h with | fin h hR=>rw [h]; exact hR
 ·intro h
  cases hv:CP P s rs with
  | none=>rw [hv] at h; exact h.elim
  | some vs=>rw [hv] at h; exact .fin hv h
theorem Ug (vs:List AV):VcR R s (some vs)=R (Gp vs) s:=rfl
theorem YH:Vc P E n0 rs R (.code .skip::k) s=Vc P E n0 rs R k s:=propext ⟨fun h=>by cases h; assumption,.skip⟩
theorem Aer (x y:Code):Vc P E n0 rs R (.code (.seq x y)::k) s=Vc P E n0 rs R (.code x::.code y::k) s:=propext ⟨fun h=>by cases h; assumption,.seq⟩
theorem Uh (id:Nat) (c:Code):Vc P E n0 rs R (.code (.block id c)::k) s=Vc P E n0 rs R (.code c::.inBlock id::k) s:=propext ⟨fun h=>by cases h; assumption,.block⟩
theorem OL (id:Nat):Vc P E n0 rs R (.inBlock id::k) s=Vc P E n0 rs R k s:=propext ⟨fun h=>by cases h; assumption,.inBlock⟩
theorem YI (c:Code):Vc P E n0 rs R (.code (.loop c)::k) s=Go P E n0 rs R (.code (.loop c)::k) s:=propext ⟨fun h=>by cases h; assumption,.loop⟩
theorem Q1 (c:Code):Vc P E n0 rs R (.inLoop c::k) s=Go P E n0 rs R (.inLoop c::k) s:=propext ⟨fun h=>by cases h; assumption,.inLoop⟩
theorem YJ (id:Nat):Vc P E n0 rs R (.code (.exit id)::k) s=VcE P E n0 rs R s (exitTo id k):=by
 apply propext; constructor
 ·intro h; cases h with | exit he h=>rw [he]; exact h
 ·intro h
  cases hv:exitTo id k with
  | none=>rw [hv] at h; exact h.elim
  | some k'=>rw [hv] at h; exact .exit hv h
theorem Ui (k:List Item):VcE P E n0 rs R s (some k)=Vc P E n0 rs R k s:=rfl
theorem OM (id:Nat) (k:List Item):exitTo id (.inBlock id::k)=some k:=by simp [exitTo]
theorem M7 (id:Nat) (c:Code) (k:List Item):exitTo id (.code c::k)=exitTo id k:=rfl
theorem Kj (id:Nat) (c:Code) (k:List Item):exitTo id (.inLoop c::k)=exitTo id k:=rfl
theorem YK (c:Operand) (x y:Code):Vc P E n0 rs R (.code (.cond c x y)::k) s=VcC P E n0 rs R x y k s (ev s.T c):=by
 apply propext; constructor
 ·intro h
  cases h with
  | cond t hc h=>
   rw [hc]
   cases t
   ·exact h
   ·exact h
 ·intro h
  generalize hv:ev s.T c=v at h
  cases v with
  | sc u=>
   cases u with
   | bool t=>
    refine .cond t hv ?_
    cases t
    ·exact h
    ·exact h
   | _=>exact h.elim
  | _=>exact h.elim
theorem Uj (x y:Code) (t:Bool):VcC P E n0 rs R x y k s (.sc (.bool t))=if t=true then Vc P E n0 rs R (.code x::k) s else Vc P E n0 rs R (.code y::k) s:=rfl
theorem Q2 (id:Nat) (ops:Array Oper):Vc P E n0 rs R (.code (.region id ops false)::k) s=VcO P E n0 rs R ops ops.toList k s:=by
 apply propext; constructor
 ·intro h; cases h with | region hr h=>exact ⟨_,hr,h⟩
 ·rintro ⟨s',hr,h⟩; exact .region hr h
theorem YL (hpm:E.perm id=none) (ops:Array Oper):Vc P E n0 rs R (.code (.region id ops true)::k) s=Dp P E ops (Vc P E n0 rs R k) ops.toList 0 s [] []:=by
 apply propext; constructor
 ·intro h
  cases h with
  | draw _ hr h=>exact (EO _ _ _ _ _).2 ⟨_,hr,h⟩
  | drawP hpm' hr h=>rw [hpm] at hpm'; cases hpm'
  | sem hpm' h=>rw [hpm] at hpm'; cases hpm'
 ·intro h
  obtain ⟨s1,h1,h2⟩:=(EO _ _ _ _ _).1 h
  exact .draw hpm h1 h2
theorem YM (all:Array Oper):VcO P E n0 rs R all [] k s=Vc P E n0 rs R k s:=by
 apply propext; constructor
 ·rintro ⟨s',h,h2⟩; simp only [Fv,lx16] at h; subst h; exact h2
 ·intro h; exact ⟨s,rfl,h⟩
theorem Q3 (all:Array Oper) (o:Oper) (r:List Oper):VcO P E n0 rs R all (o::r) k s=VcS P E n0 rs R all r k (Fq E.lit o (Ad P E all s o) (Ei P s o.op o.dst)):=by
 apply propext; constructor
 ·rintro ⟨s',h,h2⟩
  simp only [Fv] at h
  split at h
  ·rename_i s1 h1; exact ⟨s1,h1,s',h,h2⟩
  ·cases h
 ·rintro ⟨s1,h1,s',h,h2⟩
  have h1':JH P E all s o=some s1:=h1
  exact ⟨s',by simp only [Fv,h1']; exact h,h2⟩
theorem Uk (hl:E.lit=false) (all:Array Oper) (o:Oper) (r:List Oper):VcO P E n0 rs R all (o::r) k s=VcS P E n0 rs R all r k (Ad P E all s o):=by
 rw [Q3,hl]; rfl
theorem Q4 (hl:E.lit=true) (all:Array Oper) (o:Oper) (r:List Oper):VcO P E n0 rs R all (o::r) k s=VcS P E n0 rs R all r k (Fq true o (Ad P E all s o) (Ei P s o.op o.dst)):=by
 rw [Q3,hl]
theorem Aou (d:Option Nat) (op:Op) (ty:TypeId) (pos:String) (af:Array Edge) (g:Nat × Bool) (x y:Option St):Fq true ⟨d,op,ty,pos,af,some g⟩ x y=x:=by simp [Fq]
theorem Aov (d:Option Nat) (t:TypeId) (n:Nat) (ps:Array (Nat × Operand)) (ty:TypeId) (pos:String) (af:Array Edge) (x y:Option St):Fq true ⟨d,.buildSlice t n ps,ty,pos,af,none⟩ x y=y:=by simp [Fq,Cu]
theorem ON (P:Program) (s:St) (op:Op) (d:Option Nat):Ei P s op d=Ab1 s d (Au P s op d):=rfl
theorem Q5 (T T':List AV) (H H':List Blk) (c c':Nat) (d:Option Nat) (h:norefs (CZ H')=true):Ab1 ⟨T,H,c⟩ d (some ⟨T',H',c'⟩)=some (St.put ⟨T,H,c+1⟩ d (.vw false (CZ H'))):=by simp [Ab1,h]
theorem Ul (all:Array Oper) (r:List Oper) (s:St):VcS P E n0 rs R all r k (some s)=VcO P E n0 rs R all r k s:=by
 apply propext; constructor
 ·rintro ⟨s1,h,h2⟩; cases h; exact h2
 ·intro h; exact ⟨s,rfl,h⟩
end
theorem OO (P:Program) (s:St):CP P s []=some []:=rfl
theorem OP (P:Program) (s:St) (t:Nat) (r:List ResultVar):CP P s (.tmp t::r)=(CP P s r).map (s.T.getD t .un::·):=rfl
def Aw4 (v:Option AV) (r:Option (List AV)):Option (List AV):=
 match v with
 | some v=>r.map (v::·)
 | none=>none
theorem M8 (P:Program) (s:St) (t ty:Nat) (r:List ResultVar):CP P s (.cell t ty::r)=Aw4 (Av P s (.load ty (.tmp t))) (CP P s r):=rfl
theorem Q6 (v:AV) (r:List AV):Aw4 (some v) (some r)=some (v::r):=rfl
theorem OQ (v:AV):Gp [v]=v:=rfl
theorem OR (v u:AV) (l:List AV):Gp (v::u::l)=.tu (v::u::l):=rfl
section
variable {P:Program} {E:Env} {all:Array Oper} {s:St} {d:Option Nat} {ty:TypeId} {pos:String} {af:Array Edge}
def gP (s:St) (d:Option Nat) (want:Bool) (v:Option AV):AV→Option St
 | .sc (.bool b)=>(if b=want then v else some .un).map (s.put d)
 | .un=>some (s.put d .un)
 | _=>none
def gH (s:St) (d:Option Nat) (want:Bool) (v:Option St):AV→Option St
 | .sc (.bool b)=>if b=want then v else some (s.put d .un)
 | .un=>some (s.put d .un)
 | _=>none
def oV (s:St) (d:Option Nat) (v:Option AV):Option St:=v.map (s.put d)
theorem YN (v:AV):oV s d (some v)=some (s.put d v):=rfl
theorem YO (want:Bool) (v:Option AV) (b:Bool):gP s d want v (.sc (.bool b))=oV s d (if b=want then v else some .un):=rfl
theorem Aow (want:Bool) (v:Option AV):gP s d want v .un=some (s.put d .un):=rfl
theorem YP (want:Bool) (v:Option St) (b:Bool):gH s d want v (.sc (.bool b))=if b=want then v else some (s.put d .un):=rfl
theorem Aes (want:Bool) (v:Option AV) (c:Prop) [Decidable c] (b:Bool):gP s d want v (if c then .sc (.bool b) else .un)=oV s d (if c∧b=want then v else some .un):=by
 by_cases h:c <;> simp [h,gP,oV]
theorem Um {α:Type} (c:Prop) [Decidable c] (a b:α):(if c then some a else some b)=some (if c then a else b):=by split <;> rfl
theorem Un (c:Prop) [Decidable c] (a b:Bool):(if c then AV.sc (.bool a) else AV.sc (.bool b))=AV.sc (.bool (if c then a else b)):=by split <;> rfl
theorem YQ (a b:Bool):(if a=true then b else false)=(a && b):=by cases a <;> rfl
theorem Aet (a b:Bool):(if a=true then true else b)=(a || b):=by cases a <;> rfl
theorem CU (op:Op) (h1:B9 op=false) (h2:isHeapOp op=false):Ad P E all s ⟨d,op,ty,pos,af,none⟩=oV s d (Av P s op):=by
 simp [Ad,AP,h1,h2,I0,oV]
theorem C1 (op:Op) (h1:B9 op=false) (h2:isHeapOp op=false) (j:Nat) (want:Bool):Ad P E all s ⟨d,op,ty,pos,af,some (j,want)⟩=gP s d want (Av P s op) (Ao all s j):=by
 simp only [Ad,AP,h1,h2,I0,gP]
 simp only [Em,lx7,TO,lx6]
 generalize Ao all s j=g
 cases g with
 | sc v=>cases v <;> rfl
 | _=>rfl
theorem Im (op:Op) (h1:B9 op=false) (h2:isHeapOp op=true):Ad P E all s ⟨d,op,ty,pos,af,none⟩=Au P s op d:=by
 simp [Ad,AP,h1,h2,Fu]
def Kk (E:Env) (s:St) (d:Option Nat) (b:Bool) (g:Nat) (args:List AV):Option St:=
 if b=true then oV s d (E.pcall g (Al s.H args)) else
  match E.hcall g args s.H s.cnt with
  | some (r,H',cnt')=>some (St.put { s with H:=H',cnt:=cnt' } d r)
  | none=>none
def Aeu (E:Env) (s:St) (d:Option Nat) (args:List AV):AV→Option St
 | .fn g caps=>Kk E s d (E.isP g) g (args++caps)
 | _=>none
theorem Uo (args:List AV) (g:Nat) (caps:List AV):Aeu E s d args (.fn g caps)=Kk E s d (E.isP g) g (args++caps):=rfl
theorem YR (g:Nat) (args:List AV):Kk E s d true g args=oV s d (E.pcall g (Al s.H args)):=by simp [Kk]
def Ar8 (s:St) (d:Option Nat):Option (AV × List Blk × Nat)→Option St
 | some (r,H',cnt')=>some (St.put { s with H:=H',cnt:=cnt' } d r)
 | none=>none
theorem YS (g:Nat) (args:List AV):Kk E s d false g args=Ar8 s d (E.hcall g args s.H s.cnt):=by
 simp only [Kk,Ar8,Em,lx7]
theorem Q7 (T:List AV) (H H':List Blk) (c c':Nat) (r:AV):Ar8 ⟨T,H,c⟩ d (some (r,H',c'))=some (St.put ⟨T,H',c'⟩ d r):=rfl
theorem YT (f:Operand) (args:Array Operand) (ats:Array TypeId):Ad P E all s ⟨d,.call ⟨.value f,args,ats⟩,ty,pos,af,none⟩=Aeu E s d (args.toList.map (ev s.T)) (ev s.T f):=by
 simp only [Ad,AP,B9,lx6,I0,Fu,E9]
 generalize ev s.T f=v
 cases v with
 | fn g caps=>
  simp only [Aeu,Kk,Gg]
  cases E.isP g
  ·simp only [Em,lx7]
   generalize E.hcall g (List.map (ev s.T) args.toList++caps) s.H s.cnt=hh
   cases hh with
   | none=>rfl
   | some p=>rfl
  ·rfl
 | _=>rfl
def OS (E:Env) (s:St) (d:Option Nat) (want:Bool) (args:List AV) (g:AV):AV→Option St
 | .fn f caps=>if E.isP f=true then gP s d want (E.pcall f (Al s.H (args++caps))) g else gH s d want (Kk E s d false f (args++caps)) g
 | _=>gP s d want none g
theorem Q8 (want:Bool) (args:List AV) (g:AV) (f:Nat) (caps:List AV):
  OS E s d want args g (.fn f caps)=if E.isP f=true then gP s d want (E.pcall f (Al s.H (args++caps))) g else gH s d want (Kk E s d false f (args++caps)) g:=rfl
theorem Up (f:Operand) (args:Array Operand) (ats:Array TypeId) (j:Nat) (want:Bool):
  Ad P E all s ⟨d,.call ⟨.value f,args,ats⟩,ty,pos,af,some (j,want)⟩=OS E s d want (args.toList.map (ev s.T)) (Ao all s j) (ev s.T f):=by
 simp only [Ad,AP,B9,lx6,I0,Fu,E9]
 generalize ev s.T f=v
 generalize Ao all s j=g
 cases v with
 | fn h caps=>
  simp only [OS,Kk,Gg]
  cases E.isP h
  ·simp only [Em,lx7,gH]
   generalize E.hcall h (List.map (ev s.T) args.toList++caps) s.H s.cnt=hh
   cases g with
   | sc v=>
    cases v with
    | bool b=>cases hh <;> rfl
    | _=>rfl
   | _=>rfl
  ·simp only [lx6,gP]
   cases g with
   | sc v=>cases v <;> rfl
   | _=>rfl
 | _=>
  simp only [OS,gP]
  cases g with
  | sc v=>cases v <;> rfl
  | _=>rfl
theorem YU (x:Operand):Ad P E all s ⟨d,.move x,ty,pos,af,none⟩=oV s d (Av P s (.move x)):=CU _ rfl rfl
theorem Q9 (x:Operand) (j:Nat) (want:Bool):Ad P E all s ⟨d,.move x,ty,pos,af,some (j,want)⟩=gP s d want (Av P s (.move x)) (Ao all s j):=C1 _ rfl rfl j want
theorem Ra (x:Operand):Ad P E all s ⟨d,.assign x,ty,pos,af,none⟩=oV s d (Av P s (.assign x)):=CU _ rfl rfl
theorem YV (c a b:Operand):Ad P E all s ⟨d,.pick c a b,ty,pos,af,none⟩=oV s d (Av P s (.pick c a b)):=CU _ rfl rfl
theorem Rb (c a b:Operand) (j:Nat) (want:Bool):Ad P E all s ⟨d,.pick c a b,ty,pos,af,some (j,want)⟩=gP s d want (Av P s (.pick c a b)) (Ao all s j):=C1 _ rfl rfl j want
theorem YW (t:TypeId) (x:Operand):Ad P E all s ⟨d,.load t x,ty,pos,af,none⟩=oV s d (Av P s (.load t x)):=CU _ rfl rfl
theorem Rd (t:TypeId) (x:Operand) (j:Nat) (want:Bool):Ad P E all s ⟨d,.load t x,ty,pos,af,some (j,want)⟩=gP s d want (Av P s (.load t x)) (Ao all s j):=C1 _ rfl rfl j want
theorem M9 (x:Operand):Ad P E all s ⟨d,.nilCheck x,ty,pos,af,none⟩=oV s d (Av P s (.nilCheck x)):=CU _ rfl rfl
theorem Kl (x:Operand) (j:Nat) (want:Bool):Ad P E all s ⟨d,.nilCheck x,ty,pos,af,some (j,want)⟩=gP s d want (Av P s (.nilCheck x)) (Ao all s j):=C1 _ rfl rfl j want
theorem Uq (op:BinOp) (t:TypeId) (x y:Operand) (t':TypeId):Ad P E all s ⟨d,.binOp op t x y t',ty,pos,af,none⟩=oV s d (Av P s (.binOp op t x y t')):=CU _ rfl rfl
theorem OT (op:BinOp) (t:TypeId) (x y:Operand) (t':TypeId) (j:Nat) (want:Bool):Ad P E all s ⟨d,.binOp op t x y t',ty,pos,af,some (j,want)⟩=gP s d want (Av P s (.binOp op t x y t')) (Ao all s j):=C1 _ rfl rfl j want
theorem YX (op:UnOp) (t:TypeId) (x:Operand):Ad P E all s ⟨d,.unOp op t x,ty,pos,af,none⟩=oV s d (Av P s (.unOp op t x)):=CU _ rfl rfl
theorem Re (op:UnOp) (t:TypeId) (x:Operand) (j:Nat) (want:Bool):Ad P E all s ⟨d,.unOp op t x,ty,pos,af,some (j,want)⟩=gP s d want (Av P s (.unOp op t x)) (Ao all s j):=C1 _ rfl rfl j want
theorem OU (t t':TypeId) (x:Operand):Ad P E all s ⟨d,.convert t t' x,ty,pos,af,none⟩=oV s d (Av P s (.convert t t' x)):=CU _ rfl rfl
theorem Lh (t t':TypeId) (x:Operand) (j:Nat) (want:Bool):Ad P E all s ⟨d,.convert t t' x,ty,pos,af,some (j,want)⟩=gP s d want (Av P s (.convert t t' x)) (Ao all s j):=C1 _ rfl rfl j want
theorem Na (f:Fn) (a b:Array Operand):Ad P E all s ⟨d,.makeFunc f a b,ty,pos,af,none⟩=oV s d (Av P s (.makeFunc f a b)):=CU _ rfl rfl
theorem Km (f:Fn) (a b:Array Operand) (j:Nat) (want:Bool):Ad P E all s ⟨d,.makeFunc f a b,ty,pos,af,some (j,want)⟩=gP s d want (Av P s (.makeFunc f a b)) (Ao all s j):=C1 _ rfl rfl j want
theorem Ur (t:TypeId) (x:Operand) (a b c:Option Operand):Ad P E all s ⟨d,.slice t x a b c,ty,pos,af,none⟩=oV s d (Av P s (.slice t x a b c)):=CU _ rfl rfl
theorem Li (t:TypeId) (x:Operand) (f:Nat):Ad P E all s ⟨d,.fieldAddr t x f,ty,pos,af,none⟩=oV s d (Av P s (.fieldAddr t x f)):=CU _ rfl rfl
theorem Jf (t:TypeId) (x:Operand) (f:Nat) (j:Nat) (want:Bool):Ad P E all s ⟨d,.fieldAddr t x f,ty,pos,af,some (j,want)⟩=gP s d want (Av P s (.fieldAddr t x f)) (Ao all s j):=C1 _ rfl rfl j want
theorem Lj (t:TypeId) (x y:Operand):Ad P E all s ⟨d,.indexAddr t x y,ty,pos,af,none⟩=oV s d (Av P s (.indexAddr t x y)):=CU _ rfl rfl
theorem Jg (t:TypeId) (x y:Operand) (j:Nat) (want:Bool):Ad P E all s ⟨d,.indexAddr t x y,ty,pos,af,some (j,want)⟩=gP s d want (Av P s (.indexAddr t x y)) (Ao all s j):=C1 _ rfl rfl j want
theorem Us (t:TypeId) (x y:Operand):Ad P E all s ⟨d,.index t x y,ty,pos,af,none⟩=oV s d (Av P s (.index t x y)):=CU _ rfl rfl
theorem OV (t:TypeId) (x y:Operand) (j:Nat) (want:Bool):Ad P E all s ⟨d,.index t x y,ty,pos,af,some (j,want)⟩=gP s d want (Av P s (.index t x y)) (Ao all s j):=C1 _ rfl rfl j want
theorem OW (x:Operand) (i:Nat):Ad P E all s ⟨d,.extract x i,ty,pos,af,none⟩=oV s d (Av P s (.extract x i)):=CU _ rfl rfl
theorem Ut (t:TypeId) (ps:Array (Nat × Operand)):Ad P E all s ⟨d,.build t ps,ty,pos,af,none⟩=oV s d (Av P s (.build t ps)):=CU _ rfl rfl
theorem OX (t:TypeId) (ps:Array (Nat × Operand)) (j:Nat) (want:Bool):Ad P E all s ⟨d,.build t ps,ty,pos,af,some (j,want)⟩=gP s d want (Av P s (.build t ps)) (Ao all s j):=C1 _ rfl rfl j want
theorem Aev (a:Array Operand) (b:Array TypeId):Ad P E all s ⟨d,.call ⟨.builtin .len,a,b⟩,ty,pos,af,none⟩=oV s d (Av P s (.call ⟨.builtin .len,a,b⟩)):=CU _ rfl rfl
theorem Uu (a:Array Operand) (b:Array TypeId) (j:Nat) (want:Bool):Ad P E all s ⟨d,.call ⟨.builtin .len,a,b⟩,ty,pos,af,some (j,want)⟩=gP s d want (Av P s (.call ⟨.builtin .len,a,b⟩)) (Ao all s j):=C1 _ rfl rfl j want
theorem Aew (a:Array Operand) (b:Array TypeId):Ad P E all s ⟨d,.call ⟨.builtin .min,a,b⟩,ty,pos,af,none⟩=oV s d (Av P s (.call ⟨.builtin .min,a,b⟩)):=CU _ rfl rfl
theorem Uv (a:Array Operand) (b:Array TypeId) (j:Nat) (want:Bool):Ad P E all s ⟨d,.call ⟨.builtin .min,a,b⟩,ty,pos,af,some (j,want)⟩=gP s d want (Av P s (.call ⟨.builtin .min,a,b⟩)) (Ao all s j):=C1 _ rfl rfl j want
theorem Aex (a:Array Operand) (b:Array TypeId):Ad P E all s ⟨d,.call ⟨.builtin .max,a,b⟩,ty,pos,af,none⟩=oV s d (Av P s (.call ⟨.builtin .max,a,b⟩)):=CU _ rfl rfl
theorem Uw (t:TypeId):Ad P E all s ⟨d,.alloc t,ty,pos,af,none⟩=Au P s (.alloc t) d:=Im _ rfl rfl
theorem Aey (t:TypeId) (x:Operand):Ad P E all s ⟨d,.box t x,ty,pos,af,none⟩=Au P s (.box t x) d:=Im _ rfl rfl
theorem Kn (t:TypeId) (n:Nat) (ps:Array (Nat × Operand)):Ad P E all s ⟨d,.buildSlice t n ps,ty,pos,af,none⟩=Au P s (.buildSlice t n ps) d:=Im _ rfl rfl
theorem Ux (t:TypeId) (x y:Operand):Ad P E all s ⟨d,.store t x y,ty,pos,af,none⟩=Au P s (.store t x y) d:=Im _ rfl rfl
theorem Lk (t:TypeId) (x y:Operand):Ad P E all s ⟨d,.makeSlice t x y,ty,pos,af,none⟩=Au P s (.makeSlice t x y) d:=Im _ rfl rfl
theorem Rf (a:Array Operand) (b:Array TypeId):Ad P E all s ⟨d,.call ⟨.builtin .append,a,b⟩,ty,pos,af,none⟩=Au P s (.call ⟨.builtin .append,a,b⟩) d:=Im _ rfl rfl
theorem Uy (a:Array Operand) (b:Array TypeId):Ad P E all s ⟨d,.call ⟨.builtin .clear,a,b⟩,ty,pos,af,none⟩=Au P s (.call ⟨.builtin .clear,a,b⟩) d:=Im _ rfl rfl
theorem Aez (T:List AV) (t:Nat):ev T (.tmp t)=T.getD t .un:=rfl
theorem YY (T:List AV) (f:Nat):ev T (.func f)=.fn f []:=rfl
theorem Af0 (T:List AV) (k:IntKind) (n:Int):ev T (.const (.int k n))=.sc (.int k n):=rfl
theorem YZ (T:List AV) (b:Bool):ev T (.const (.bool b))=.sc (.bool b):=rfl
theorem Af1 (T:List AV) (b:ByteArray):ev T (.const (.string b))=.sc (.string b):=rfl
theorem Af2 (T:List AV):ev T (.const (.slice none 0 0))=.vw true []:=rfl
theorem Rg (x:Operand):Av P s (.move x)=some (ev s.T x):=rfl
theorem Nb (x:Operand):Av P s (.assign x)=some (ev s.T x):=rfl
def Af3 (a b:AV):AV→Option AV
 | .sc (.bool t)=>some (if t=true then a else b)
 | _=>none
theorem Rh (c a b:Operand):Av P s (.pick c a b)=Af3 (ev s.T a) (ev s.T b) (ev s.T c):=by
 simp only [Av,Af3]
 generalize ev s.T c=v
 cases v with
 | sc v=>cases v <;> rfl
 | _=>rfl
theorem OY (a b:AV) (t:Bool):Af3 a b (.sc (.bool t))=some (if t=true then a else b):=rfl
def ldE (d:TyD) (off:Nat):Option AV→Option AV
 | some e=>EN d e.cells off
 | none=>none
def ldB (d:TyD) (i off:Nat):Option Blk→Option AV
 | some B=>ldE d off B.els[i]?
 | none=>none
def ldV (d:TyD) (off:Nat):Option AV→Option AV
 | some e=>match EN d e.cells off with
  | some v=>if v.noref=true then some v else none
  | none=>none
 | none=>none
def Y0 (H:List Blk):Option TyD→AV→Option AV
 | some d,.pt id ver i off=>ldB d i off (AE H id ver)
 | some d,.vp es i off=>ldV d off es[i]?
 | _,_=>none
theorem Ri (t:TypeId) (x:Operand):Av P s (.load t x)=Y0 s.H (AY P t) (ev s.T x):=by
 simp only [Av,Y0,ldB,ldE,ldV]
 generalize ev s.T x=v
 generalize AY P t=d
 cases d with
 | none=>rfl
 | some d=>cases v <;> rfl
theorem Uz (H:List Blk) (d:TyD) (id ver i off:Nat):Y0 H (some d) (.pt id ver i off)=ldB d i off (AE H id ver):=rfl
theorem UA (H:List Blk) (d:TyD) (es:List AV) (i off:Nat):Y0 H (some d) (.vp es i off)=ldV d off es[i]?:=rfl
theorem UB (d:TyD) (i off:Nat) (B:Blk):ldB d i off (some B)=ldE d off B.els[i]?:=rfl
theorem UC (d:TyD) (off:Nat) (e:AV):ldE d off (some e)=EN d e.cells off:=rfl
def ldW:Option AV→Option AV
 | some v=>if v.noref=true then some v else none
 | none=>none
theorem UD (d:TyD) (off:Nat) (e:AV):ldV d off (some e)=ldW (EN d e.cells off):=rfl
theorem UE (v:AV):ldW (some v)=if v.noref=true then some v else none:=rfl
theorem Rj (sz bytes:Nat) (zero el len fl) (cs:List AV) (off:Nat):EN ⟨true,sz,bytes,zero,el,len,fl⟩ cs off=if off+sz≤cs.length then some (.ag ((cs.drop off).take sz)) else none:=rfl
theorem Rk (sz bytes:Nat) (zero el len fl) (cs:List AV) (off:Nat):EN ⟨false,sz,bytes,zero,el,len,fl⟩ cs off=cs[off]?:=rfl
theorem UF (cs:List AV):AV.cells (.ag cs)=cs:=rfl
theorem UG (v:Value):AV.cells (.sc v)=[.sc v]:=rfl
theorem UH (z:Bool) (es:List AV):AV.cells (.vw z es)=[.vw z es]:=rfl
theorem UI (a b c d:Nat):AV.cells (.sl a b c d)=[.sl a b c d]:=rfl
theorem UJ (z:Bool) (es:List AV):AV.noref (.vw z es)=true:=by simp [AV.noref]
theorem Nc (a:AV) (r:List AV):norefs (a::r)=(a.noref && norefs r):=by simp [norefs]
def EW (P:Program) (op:BinOp) (t:TypeId) (x y:Operand) (u v:AV):Option AV:=
 match BZ u,BZ v with
 | some a,some b=>match Bp P (do eqGuard op t x y a b; binOp op t a b) with
  | some v=>some (KY v)
  | none=>none
 | _,_=>Ab0 P op t u y
theorem Io (op:BinOp) (t t':TypeId) (x y:Operand):Av P s (.binOp op t x y t')=EW P op t x y (K7 s.H (ev s.T x)) (ev s.T y):=rfl
theorem Y1 (H:List Blk) (v:Value):K7 H (.sc v)=.sc v:=rfl
theorem Y2 (H:List Blk) (l:List AV):K7 H (.ag l)=.ag l:=rfl
theorem Y3 (H:List Blk) (z:Bool) (l:List AV):K7 H (.vw z l)=.vw z l:=rfl
theorem Nd (t:TypeId) (x:Operand) (u:AV):EW P .eql t x (.const (.slice none 0 0)) u (.vw true [])=TU .eql (Oq P t) (Ja u):=by
 unfold EW
 cases BZ u <;> rfl
theorem UK (b:Bool):TU .eql true (some b)=some (.sc (.bool b)):=rfl
theorem UL (z:Bool) (e:AV) (l:List AV):Ja (.vw z (e::l))=some false:=rfl
theorem UM (l c:Nat):Ja (.sc (.slice none l c))=some true:=rfl
theorem UN (a:Addr) (l c:Nat):Ja (.sc (.slice (some a) l c))=some false:=rfl
theorem Abf {op:BinOp} {t:TypeId} {x y:Operand} {k k':IntKind} {a b:Int} {v:Value} (h:rd P (binOp op t (.int k a) (.int k' b)) default=some v):
  Bp P (do eqGuard op t x y (.int k a) (.int k' b); binOp op t (.int k a) (.int k' b))=some v:=by
 unfold Bp
 rw [Ai]
 have:rd P (eqGuard op t x y (.int k a) (.int k' b)) default=some ():=by
  unfold eqGuard
  split <;> rfl
 rw [this]
 exact h
section
variable (t:TypeId) (x y:Operand) (k:IntKind) (a b:Int)
theorem D4 {op:BinOp} {k k':IntKind} {v:Value} (h:rd P (binOp op t (.int k a) (.int k' b)) default=some v):EW P op t x y (.sc (.int k a)) (.sc (.int k' b))=some (KY v):=by
 simp only [EW,BZ,Abf h]
theorem Su:EW P .add t x y (.sc (.int k a)) (.sc (.int k b))=some (.sc (.int k (k.wrap (a+b)))):=D4 _ _ _ _ _ (v:=.int k (k.wrap (a+b))) (by simp [binOp,Op.intArith,Ak])
theorem Sv:EW P .sub t x y (.sc (.int k a)) (.sc (.int k b))=some (.sc (.int k (k.wrap (a - b)))):=D4 _ _ _ _ _ (v:=.int k (k.wrap (a - b))) (by simp [binOp,Op.intArith,Ak])
theorem Y4:EW P .mul t x y (.sc (.int k a)) (.sc (.int k b))=some (.sc (.int k (k.wrap (a * b)))):=D4 _ _ _ _ _ (v:=.int k (k.wrap (a * b))) (by simp [binOp,Op.intArith,Ak])
theorem Sw:EW P .eql t x y (.sc (.int k a)) (.sc (.int k b))=some (.sc (.bool (a == b))):=D4 _ _ _ _ _ (v:=.bool (a == b)) (by simp [binOp,Op.intCmp,Ak])
theorem Sx:EW P .neq t x y (.sc (.int k a)) (.sc (.int k b))=some (.sc (.bool (a != b))):=D4 _ _ _ _ _ (v:=.bool (a != b)) (by simp [binOp,Op.intCmp,Ak])
theorem Sy:EW P .lss t x y (.sc (.int k a)) (.sc (.int k b))=some (.sc (.bool (decide (a < b)))):=D4 _ _ _ _ _ (v:=.bool (decide (a < b))) (by simp [binOp,Op.intCmp,Ak])
theorem Sz:EW P .leq t x y (.sc (.int k a)) (.sc (.int k b))=some (.sc (.bool (decide (a≤b)))):=D4 _ _ _ _ _ (v:=.bool (decide (a≤b))) (by simp [binOp,Op.intCmp,Ak])
theorem SA:EW P .gtr t x y (.sc (.int k a)) (.sc (.int k b))=some (.sc (.bool (decide (b < a)))):=D4 _ _ _ _ _ (v:=.bool (decide (b < a))) (by simp [binOp,Op.intCmp,Ak])
theorem SB:EW P .geq t x y (.sc (.int k a)) (.sc (.int k b))=some (.sc (.bool (decide (b≤a)))):=D4 _ _ _ _ _ (v:=.bool (decide (b≤a))) (by simp [binOp,Op.intCmp,Ak])
theorem Y5 (h:b≠0):EW P .quo t x y (.sc (.int k a)) (.sc (.int k b))=some (.sc (.int k (k.wrap (a.tdiv b)))):=D4 _ _ _ _ _ (v:=.int k (k.wrap (a.tdiv b))) (by simp [binOp,Op.intDiv,Ak,h])
theorem Y6 (h:b≠0):EW P .rem t x y (.sc (.int k a)) (.sc (.int k b))=some (.sc (.int k (a.tmod b))):=D4 _ _ _ _ _ (v:=.int k (a.tmod b)) (by simp [binOp,Op.intDiv,Ak,h])
def DE (op:BinOp) (k:IntKind) (a b:Int):Int:=
 let x:=BitVec.ofInt k.bits a
 let y:=BitVec.ofInt k.bits b
 k.wrap ((match op with | .and=>x &&& y | .or=>x ||| y | .xor=>x ^^^ y | _=>x &&& ~~~y).toNat)
theorem Y7:EW P .and t x y (.sc (.int k a)) (.sc (.int k b))=some (.sc (.int k (DE .and k a b))):=D4 _ _ _ _ _ (v:=.int k (DE .and k a b)) (by simp [binOp,Op.intBits,Ak,DE])
theorem Af4:EW P .or t x y (.sc (.int k a)) (.sc (.int k b))=some (.sc (.int k (DE .or k a b))):=D4 _ _ _ _ _ (v:=.int k (DE .or k a b)) (by simp [binOp,Op.intBits,Ak,DE])
theorem OZ:EW P .andNot t x y (.sc (.int k a)) (.sc (.int k b))=some (.sc (.int k (DE .andNot k a b))):=D4 _ _ _ _ _ (v:=.int k (DE .andNot k a b)) (by simp [binOp,Op.intBits,Ak,DE])
def Ll (k:IntKind) (a b:Int):Int:=k.wrap (a * 2 ^ (min b.toNat k.bits))
def He (k:IntKind) (a b:Int):Int:=a.fdiv (2 ^ (min b.toNat k.bits))
theorem Y8 (k':IntKind) (h:0≤b):EW P .shl t x y (.sc (.int k a)) (.sc (.int k' b))=some (.sc (.int k (Ll k a b))):=D4 _ _ _ _ _ (v:=.int k (Ll k a b)) (by
 have h':¬ b < 0:=Ah
 simp [binOp,Op.shift,Ak,Ll,h'])
theorem Y9 (k':IntKind) (h:0≤b):EW P .shr t x y (.sc (.int k a)) (.sc (.int k' b))=some (.sc (.int k (He k a b))):=D4 _ _ _ _ _ (v:=.int k (He k a b)) (by
 have h':¬ b < 0:=Ah
 simp [binOp,Op.shift,Ak,He,h'])
end
def unA (P:Program) (op:UnOp) (u:AV):Option AV:=
 match BZ u with
 | some a=>match Bp P (Op.unary op a) with
  | some v=>some (KY v)
  | none=>none
 | none=>none
theorem Rl (op:UnOp) (t:TypeId) (x:Operand):Av P s (.unOp op t x)=unA P op (ev s.T x):=rfl
theorem Af5 (b:Bool):unA P .not (.sc (.bool b))=some (.sc (.bool (!b))):=rfl
theorem Af6 (k:IntKind) (n:Int):unA P .neg (.sc (.int k n))=some (.sc (.int k (k.wrap (0 - n)))):=rfl
def cvA (P:Program) (src dst:TypeId) (u:AV):Option AV:=
 match BZ u with
 | some a=>match Bp P (convert src dst a) with
  | some v=>some (KY v)
  | none=>none
 | none=>none
theorem Qk (src dst:TypeId) (x:Operand):Av P s (.convert src dst x)=cvA P src dst (ev s.T x):=rfl
theorem Ar9 {src dst:TypeId} {ks kd:IntKind} (h1:P.underlying src=some (.int ks)) (h2:P.underlying dst=some (.int kd)) (k:IntKind) (n:Int):
  cvA P src dst (.sc (.int k n))=some (.sc (.int kd (kd.wrap n))):=by
 have:Bp P (convert src dst (.int k n))=some (.int kd (kd.wrap n)):=by
  unfold Bp convert
  simp only [Ai,Ar,h1,h2,lx17]
  rfl
 simp only [cvA,BZ,this]; rfl
def cvX (P:Program) (src dst:TypeId) (u:AV):Option TypeDesc→Option TypeDesc→Option AV
 | some (.int _),some (.int kd)=>match u with
  | .sc (.int _ n)=>some (.sc (.int kd (kd.wrap n)))
  | _=>cvA P src dst u
 | _,_=>cvA P src dst u
theorem Fc (src dst:TypeId) (x:Operand):Av P s (.convert src dst x)=cvX P src dst (ev s.T x) (P.underlying src) (P.underlying dst):=by
 rw [Qk]
 generalize ev s.T x=u
 unfold cvX
 split
 ·rename_i h1 h2
  split
  ·exact Ar9 h1 h2 _ _
  ·rfl
 ·rfl
theorem NN (src dst:TypeId) (ks kd k:IntKind) (n:Int):cvX P src dst (.sc (.int k n)) (some (.int ks)) (some (.int kd))=some (.sc (.int kd (kd.wrap n))):=rfl
def faA (H:List Blk) (off:Nat):AV→Option AV
 | .pt id ver i o=>match AE H id ver with
  | some _=>some (.pt id ver i (o+off))
  | none=>none
 | .vp es i o=>some (.vp es i (o+off))
 | _=>none
def faD (P:Program) (H:List Blk) (v:AV):Option (Nat × Nat)→Option AV
 | some (off,ft)=>match AY P ft with
  | some df=>if df.sz=0 then none else faA H off v
  | none=>none
 | none=>none
def faT (P:Program) (H:List Blk) (f:Nat) (v:AV):Option TyD→Option AV
 | some d=>faD P H v d.flds[f]?
 | none=>none
theorem Jh (t:TypeId) (x:Operand) (f:Nat):Av P s (.fieldAddr t x f)=faT P s.H f (ev s.T x) (AY P t):=by
 simp only [Av,faT,faD,faA]
 cases AY P t with
 | none=>rfl
 | some d=>
  simp only
  cases d.flds[f]? with
  | none=>rfl
  | some p=>
   obtain ⟨off,ft⟩:=p
   simp only
   cases AY P ft with
   | none=>rfl
   | some df=>
    simp only
    split
    ·rfl
    ·cases ev s.T x <;> rfl
theorem UO (H:List Blk) (f:Nat) (v:AV) (d:TyD):faT P H f v (some d)=faD P H v d.flds[f]?:=rfl
def faS (H:List Blk) (off:Nat) (v:AV):Option TyD→Option AV
 | some df=>if df.sz=0 then none else faA H off v
 | none=>none
theorem UP (H:List Blk) (v:AV) (off ft:Nat):faD P H v (some (off,ft))=faS H off v (AY P ft):=rfl
theorem UQ (H:List Blk) (off:Nat) (v:AV) (d:TyD):faS H off v (some d)=if d.sz=0 then none else faA H off v:=rfl
def faL (o:Option Blk) (v:AV):Option AV:=match o with | some _=>some v | none=>none
theorem Af7 (H:List Blk) (off id ver i o:Nat):faA H off (.pt id ver i o)=faL (AE H id ver) (.pt id ver i (o+off)):=rfl
theorem Af8 (H:List Blk) (off i o:Nat) (es:List AV):faA H off (.vp es i o)=some (.vp es i (o+off)):=rfl
theorem UR (B:Blk) (v:AV):faL (some B) v=some v:=rfl
theorem Ko (x:Operand):Av P s (.nilCheck x)=(match ev s.T x with
  | .pt id ver i off=>faL (AE s.H id ver) (.pt id ver i off)
  | .vp es i off=>some (.vp es i off)
  | .fn f cs=>some (.fn f cs)
  | _=>none):=rfl
theorem Ln (x:Operand) (i:Nat):Av P s (.extract x i)=(match ev s.T x with | .tu vs=>vs[i]? | _=>none):=rfl
end
section
variable {E:Env} {s:St}
theorem Za {κ:Nat→Bool} (x:Operand):Ce κ (.move x)=false:=rfl
theorem Rm {κ:Nat→Bool} (x:Operand):Ce κ (.assign x)=false:=rfl
theorem Zb {κ:Nat→Bool} (a b c:Operand):Ce κ (.pick a b c)=false:=rfl
theorem US {κ:Nat→Bool} (op:BinOp) (t:TypeId) (x y:Operand) (t':TypeId):Ce κ (.binOp op t x y t')=false:=rfl
theorem Zc {κ:Nat→Bool} (op:UnOp) (t:TypeId) (x:Operand):Ce κ (.unOp op t x)=false:=rfl
theorem O0 {κ:Nat→Bool} (a b:TypeId) (x:Operand):Ce κ (.convert a b x)=false:=rfl
theorem O1 {κ:Nat→Bool} (x:Operand) (i:Nat):Ce κ (.extract x i)=false:=rfl
theorem UT {κ:Nat→Bool} (t:TypeId) (ps:Array (Nat × Operand)):Ce κ (.build t ps)=false:=rfl
theorem Zd {κ:Nat→Bool} (t:TypeId) (x:Operand):Ce κ (.load t x)=false:=rfl
theorem Nf {κ:Nat→Bool} (x:Operand):Ce κ (.nilCheck x)=false:=rfl
theorem Lp {κ:Nat→Bool} (t:TypeId) (x:Operand) (f:Nat):Ce κ (.fieldAddr t x f)=false:=rfl
theorem Lq {κ:Nat→Bool} (t:TypeId) (x y:Operand):Ce κ (.indexAddr t x y)=false:=rfl
theorem UU {κ:Nat→Bool} (t:TypeId) (x:Operand) (a b c:Option Operand):Ce κ (.slice t x a b c)=false:=rfl
theorem UW {κ:Nat→Bool} (g:Nat) (a:Array Operand) (b:Array TypeId):Ce κ (.call ⟨.value (.func g),a,b⟩)=κ g:=rfl
theorem UX {κ:Nat→Bool} (t:Nat) (a:Array Operand) (b:Array TypeId):Ce κ (.call ⟨.value (.tmp t),a,b⟩)=false:=rfl
theorem Af9 {κ:Nat→Bool} (a:Array Operand) (b:Array TypeId):Ce κ (.call ⟨.builtin .len,a,b⟩)=false:=rfl
theorem Afa {κ:Nat→Bool} (a:Array Operand) (b:Array TypeId):Ce κ (.call ⟨.builtin .min,a,b⟩)=false:=rfl
theorem Afb {κ:Nat→Bool} (a:Array Operand) (b:Array TypeId):Ce κ (.call ⟨.builtin .max,a,b⟩)=false:=rfl
theorem Afc {κ:Nat→Bool} (t:TypeId) (x:Operand):Ce κ (.box t x)=true:=rfl
theorem UY {κ:Nat→Bool} (t:TypeId):Ce κ (.alloc t)=true:=rfl
theorem UZ {κ:Nat→Bool} (t:TypeId) (x y:Operand):Ce κ (.store t x y)=true:=rfl
theorem Kp {κ:Nat→Bool} (t:TypeId) (n:Nat) (ps:Array (Nat × Operand)):Ce κ (.buildSlice t n ps)=true:=rfl
theorem Lr {κ:Nat→Bool} (t:TypeId) (x y:Operand):Ce κ (.makeSlice t x y)=true:=rfl
theorem Ro {κ:Nat→Bool} (a:Array Operand) (b:Array TypeId):Ce κ (.call ⟨.builtin .append,a,b⟩)=true:=rfl
theorem Ze (x:Operand):AI (.move x)=true:=rfl
theorem Rp (x:Operand):AI (.assign x)=true:=rfl
theorem Zf (a b c:Operand):AI (.pick a b c)=true:=rfl
theorem U0 (op:BinOp) (t:TypeId) (x y:Operand) (t':TypeId):AI (.binOp op t x y t')=!Aeg y:=rfl
theorem U1 (x:Nat):Aeg (.tmp x)=false:=rfl
theorem U2 (k:IntKind) (n:Int):Aeg (.const (.int k n))=false:=rfl
theorem Zg (op:UnOp) (t:TypeId) (x:Operand):AI (.unOp op t x)=true:=rfl
theorem O2 (a b:TypeId) (x:Operand):AI (.convert a b x)=true:=rfl
theorem O3 (x:Operand) (i:Nat):AI (.extract x i)=true:=rfl
theorem U3 (t:TypeId) (ps:Array (Nat × Operand)):AI (.build t ps)=true:=rfl
theorem Zh (t:TypeId) (x:Operand):AI (.load t x)=false:=rfl
theorem Ng (x:Operand):AI (.nilCheck x)=false:=rfl
theorem Ls (t:TypeId) (x:Operand) (f:Nat):AI (.fieldAddr t x f)=false:=rfl
theorem Lt (t:TypeId) (x y:Operand):AI (.indexAddr t x y)=false:=rfl
theorem U4 (t:TypeId) (x:Operand) (a b c:Option Operand):AI (.slice t x a b c)=false:=rfl
theorem Zi (f:Operand) (a:Array Operand) (b:Array TypeId):AI (.call ⟨.value f,a,b⟩)=false:=rfl
theorem Afd (a:Array Operand) (b:Array TypeId):AI (.call ⟨.builtin .len,a,b⟩)=false:=rfl
theorem Afe (a:Array Operand) (b:Array TypeId):AI (.call ⟨.builtin .min,a,b⟩)=true:=rfl
theorem Aff (a:Array Operand) (b:Array TypeId):AI (.call ⟨.builtin .max,a,b⟩)=true:=rfl
theorem Afg (t:TypeId) (x:Operand):AI (.box t x)=false:=rfl
theorem U5 (t:TypeId):AI (.alloc t)=false:=rfl
theorem U6 (t:TypeId) (x y:Operand):AI (.store t x y)=false:=rfl
theorem Kq (t:TypeId) (n:Nat) (ps:Array (Nat × Operand)):AI (.buildSlice t n ps)=false:=rfl
theorem Lu (t:TypeId) (x y:Operand):AI (.makeSlice t x y)=false:=rfl
theorem Rq (a:Array Operand) (b:Array TypeId):AI (.call ⟨.builtin .append,a,b⟩)=false:=rfl
end
def D8:List (Nat × (List AV→Option AV))→Nat→Bool
 | [],_=>false
 | (g,_)::r,f=>if f=g then true else D8 r f
def pl:List (Nat × (List AV→Option AV))→Nat→List AV→Option AV
 | [],_,_=>none
 | (g,F)::r,f,a=>if f=g then F a else pl r f a
def Xi (l:List (Nat × (List AV→Option AV))):Env:=⟨D8 l,pl l,fun _ _ _ _=>none,false,fun _=>none,fun _=>false⟩
theorem U7 (l:List (Nat × (List AV→Option AV))):(Xi l).lit=false:=rfl
theorem Rr (l:List (Nat × (List AV→Option AV))) (i:Nat):(Xi l).perm i=none:=rfl
theorem U8 (l:List (Nat × (List AV→Option AV))) (f:Nat):(Xi l).isP f=D8 l f:=rfl
theorem O4 (l:List (Nat × (List AV→Option AV))) (f:Nat) (a:List AV):(Xi l).pcall f a=pl l f a:=rfl
def Eb (P:Program) (g:Nat) (F:List AV→Option AV):Prop:=∀ args r,F args=some r→CO P g args r
inductive POks (P:Program):List (Nat × (List AV→Option AV))→Prop
 | nil:POks P []
 | cons {g F r} (h:Eb P g F) (t:POks P r):POks P ((g,F)::r)
theorem Lv {P:Program} {l:List (Nat × (List AV→Option AV))} (h:POks P l):EnvOk P (Xi l) where
 p f args r he:=by
  simp only [Xi] at he
  induction h with
  | nil=>simp [pl] at he
  | @cons g F l h t ih=>
   simp only [pl] at he
   split at he
   ·rename_i hh; subst hh; exact h args r he
   ·exact ih he
 h f args H cnt r H' cnt' he:=by simp [Xi] at he
theorem Afh {c p q:Prop} [Decidable c] (h:c→p) (h':¬ c→q):if c then p else q:=by split <;> simp_all
end Go.SX
namespace Go.SX
def Nh:List AV→List AV→Prop
 | [],[]=>True
 | a::T,b::T'=>(b=.jk∨a=b)∧Nh T T'
 | _,_=>False
theorem Rt:Nh [] []=True:=rfl
theorem O5 (a b:AV) (T T':List AV):Nh (a::T) (b::T')=((b=.jk∨a=b)∧Nh T T'):=rfl
theorem O6:∀ {T T':List AV},Nh T T'→T.length=T'.length∧∀ (i:Nat) (b:AV),T'[i]?=some b→b=.jk∨T[i]?=some b
 | [],[],_=>⟨rfl,fun i b h=>by simp at h⟩
 | a::T,b::T',h=>by
  obtain ⟨h1,h2⟩:=h
  obtain ⟨e1,e2⟩:=O6 h2
  refine ⟨by simp [e1],fun i c hc=>?_⟩
  cases i with
  | zero=>
   simp at hc ⊢
   subst hc
   exact h1
  | succ i=>simp at hc ⊢; exact e2 i c hc
 | [],_::_,h=>h.elim
 | _::_,[],h=>h.elim
def Ji:List Blk→List Blk→Prop
 | _,[]=>True
 | [],b::H'=>b.live=false∧Ji [] H'
 | a::H,b::H'=>(b.live=false∨a=b)∧Ji H H'
theorem Rv (H:List Blk):Ji H []=True:=by cases H <;> rfl
theorem O7 (a b:Blk) (H H':List Blk):Ji (a::H) (b::H')=((b.live=false∨a=b)∧Ji H H'):=rfl
theorem KE:∀ {H H':List Blk},Ji H H'→∀ (i:Nat) (b:Blk),H'[i]?=some b→b.live=true→H[i]?=some b
 | _,[],_,i,b,h,_=>by simp at h
 | [],b::H',h,i,c,hc,hl=>by
  cases i with
  | zero=>simp at hc; subst hc; rw [h.1] at hl; cases hl
  | succ i=>simp at hc; have:=KE h.2 i c hc hl; simp at this
 | a::H,b::H',h,i,c,hc,hl=>by
  cases i with
  | zero=>
   simp at hc ⊢; subst hc
   rcases h.1 with h1 | h1
   ·rw [h1] at hl; cases hl
   ·exact h1
  | succ i=>simp at hc ⊢; exact KE h.2 i c hc hl
section
variable {P:Program} {E:Env} {n0:Nat} {rs:List ResultVar} {R:AV→St→Prop}
theorem AD {k:List Item} {T T':List AV} {H H':List Blk} {c c':Nat} (hT:Nh T T') (hH:Ji H H') (hc:c≤c') (h:Go P E n0 rs R k ⟨T',H',c'⟩):Go P E n0 rs R k ⟨T,H,c⟩:=by
 refine .ghost (s':=⟨T',H',c'⟩) (fun w X loc a hs=>?_) h
 obtain ⟨h1,h2,h3⟩:=hs
 obtain ⟨g1,g2⟩:=QK (H':=H') (cnt':=c') h1 (KE hH) hc
 refine ⟨X,loc,⟨g1,?_,h3⟩,fun w0 X0 BW _ he=>he.trans g2⟩
 obtain ⟨e1,e2⟩:=O6 hT
 refine ⟨e1.symm.trans h2.1,fun i b v hb hv=>?_⟩
 rcases e2 i b hb with rfl | hb'
 ·exact .jk
 ·exact (h2.2 i b v hb' hv).mono g2 h1
theorem Akc {σ:Type} (I:σ→Nat→St) (Inv:σ→Prop) (μ:σ→Nat) {c:Code} {k:List Item}
  (hb:∀ x cnt,Inv x→(∀ x' cnt',Inv x'→μ x' < μ x→Go P E n0 rs R (.inLoop c::k) (I x' cnt'))→Go P E n0 rs R (.code c::.inLoop c::k) (I x cnt))
  (x:σ) (cnt:Nat) (h:Inv x):Go P E n0 rs R (.code (.loop c)::k) (I x cnt):=by
 have:∀ n x cnt,μ x < n→Inv x→Go P E n0 rs R (.code c::.inLoop c::k) (I x cnt):=by
  intro n
  induction n with
  | zero=>intro x cnt h; omega
  | succ n ih=>intro x cnt h h'; exact hb x cnt h' (fun x' cnt' h1 h2=>.inLoop (ih x' cnt' (by omega) h1))
 exact .loop (this _ x cnt (IY _) h)
theorem Aw {σ:Type} (I:σ→Nat→St) (Inv:σ→Prop) (μ:σ→Nat) (x:σ) {c:Code} {k:List Item} {T:List AV} {H:List Blk} {cnt:Nat}
  (h:Inv x) (hw:Nh T (I x cnt).T) (hh:Ji H (I x cnt).H) (hcn:(I x cnt).cnt=cnt)
  (hb:∀ x cnt,Inv x→(∀ x' cnt',Inv x'→μ x' < μ x→Go P E n0 rs R (.inLoop c::k) (I x' cnt'))→Go P E n0 rs R (.code c::.inLoop c::k) (I x cnt)):
  Go P E n0 rs R (.code (.loop c)::k) ⟨T,H,cnt⟩:=
 AD hw hh (Nat.le_of_eq hcn.symm) (Akc I Inv μ hb x cnt h)
end
theorem JL {x:Int} (h:0≤x) (h':x < 18446744073709551616):IntKind.u64.wrap x=x:=by
 exact Adr
theorem JM {x:Int} (h:0≤x) (h':x < 4294967296):IntKind.u32.wrap x=x:=by
 exact Adr
def EX:Nat→List (Nat × AV)→AV
 | _,[]=>.jk
 | i,(j,v)::l=>if i=j then v else EX i l
def Cg:Nat→Nat→List (Nat × AV)→List AV
 | _,0,_=>[]
 | i,n+1,l=>EX i l::Cg (i+1) n l
end Go.SX
