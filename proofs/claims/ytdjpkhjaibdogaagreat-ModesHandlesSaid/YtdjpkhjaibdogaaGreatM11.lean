/-
  Lemmas towards ModesHandles (joined texts: SXB, SXC).
  Conditions: none.
-/
import Derived.Test.YtdjpkhjaibdogaaGreatM01
import Derived.Test.YtdjpkhjaibdogaaGreatM10
set_option linter.unusedSimpArgs false
set_option linter.unusedVariables false
set_option maxRecDepth 100000
namespace Go.SX
open Go.RowKit (Below)
inductive Vc (P:Program) (E:Env) (n0:Nat) (rs:List ResultVar) (R:AV→St→Prop):List Item→St→Prop
 | ret {k s vs} (h:C3 P s rs=some vs) (hR:R (G4 vs) s):Vc P E n0 rs R (.code .ret::k) s
 | fin {s vs} (h:C3 P s rs=some vs) (hR:R (G4 vs) s):Vc P E n0 rs R [] s
 | skip {k s} (h:Vc P E n0 rs R k s):Vc P E n0 rs R (.code .skip::k) s
 | seq {k s x y} (h:Vc P E n0 rs R (.code x::.code y::k) s):Vc P E n0 rs R (.code (.seq x y)::k) s
 | cond {k s c x y} (t:Bool) (hc:ev s.T c=.sc (.bool t)) (h:Vc P E n0 rs R (.code (if t=true then x else y)::k) s):Vc P E n0 rs R (.code (.cond c x y)::k) s
 | block {k s id c} (h:Vc P E n0 rs R (.code c::.inBlock id::k) s):Vc P E n0 rs R (.code (.block id c)::k) s
 | inBlock {k s id} (h:Vc P E n0 rs R k s):Vc P E n0 rs R (.inBlock id::k) s
 | loop {k s c} (h:Go P E n0 rs R (.code (.loop c)::k) s):Vc P E n0 rs R (.code (.loop c)::k) s
 | inLoop {k s c} (h:Go P E n0 rs R (.inLoop c::k) s):Vc P E n0 rs R (.inLoop c::k) s
 | exit {k k' s id} (he:exitTo id k=some k') (h:Vc P E n0 rs R k' s):Vc P E n0 rs R (.code (.exit id)::k) s
 | region {k s s' id ops} (hr:Gb P E ops ops.toList s=some s') (h:Vc P E n0 rs R k s'):Vc P E n0 rs R (.code (.region id ops false)::k) s
 | draw {k s s' id ops} (hpm:E.perm id=none) (hr:DM P E ops (·=s') ops.toList 0 s [] []) (h:Vc P E n0 rs R k s'):Vc P E n0 rs R (.code (.region id ops true)::k) s
 | drawP {k s s' id ops i π} (hpm:E.perm id=some (i::π)) (hr:DM P E (CL ops (i::π)) (·=s') (CL ops (i::π)).toList 0 s [] []) (h:Vc P E n0 rs R k s'):Vc P E n0 rs R (.code (.region id ops true)::k) s
 | sem {k s id ops} (hpm:E.perm id=some []) (h:Go P E n0 rs R (.code (.region id ops true)::k) s):Vc P E n0 rs R (.code (.region id ops true)::k) s
section
variable {P:Program} {E:Env} {n0:Nat} {rs:List ResultVar} {R:AV→St→Prop}
theorem Ab {k s} (h:Vc P E n0 rs R k s):Go P E n0 rs R k s:=by
 induction h with
 | ret h hR=>exact .ret h hR
 | fin h hR=>exact .fin h hR
 | skip _ ih=>exact .skip ih
 | seq _ ih=>exact .seq ih
 | cond t hc _ ih=>exact .cond t hc ih
 | block _ ih=>exact .block ih
 | inBlock _ ih=>exact .inBlock ih
 | loop h=>exact h
 | inLoop h=>exact h
 | exit he _ ih=>exact .exit he ih
 | region hr _ ih=>exact .region hr ih
 | @draw k s s' id ops hpm hr _ ih=>
  cases hb:ops.toList.any Fl with
  | true=>exact .drawH hpm hb hr ih
  | false=>exact .draw hpm (EU _ _ _ _ hb hr) ih
 | drawP hpm hr _ ih=>exact .drawP hpm hr ih
 | sem _ h=>exact h
def VcE (P:Program) (E:Env) (n0:Nat) (rs:List ResultVar) (R:AV→St→Prop) (s:St):Option (List Item)→Prop
 | some k=>Vc P E n0 rs R k s
 | none=>False
def VcC (P:Program) (E:Env) (n0:Nat) (rs:List ResultVar) (R:AV→St→Prop) (x y:Code) (k:List Item) (s:St):AV→Prop
 | .sc (.bool t)=>if t=true then Vc P E n0 rs R (.code x::k) s else Vc P E n0 rs R (.code y::k) s
 | _=>False
def VcO (P:Program) (E:Env) (n0:Nat) (rs:List ResultVar) (R:AV→St→Prop) (all:Array Oper) (r:List Oper) (k:List Item) (s:St):Prop:=
 ∃ s',Gb P E all r s=some s'∧Vc P E n0 rs R k s'
def VcS (P:Program) (E:Env) (n0:Nat) (rs:List ResultVar) (R:AV→St→Prop) (all:Array Oper) (r:List Oper) (k:List Item) (s:Option St):Prop:=
 ∃ s1,s=some s1∧VcO P E n0 rs R all r k s1
def VcR (R:AV→St→Prop) (s:St):Option (List AV)→Prop
 | some vs=>R (G4 vs) s
 | none=>False
variable {k:List Item} {s:St} {id:Nat}
theorem Afn:Vc P E n0 rs R (.code .ret::k) s=VcR R s (C3 P s rs):=by
 apply propext; constructor
 ·intro h; cases h with | ret h hR=>rw [h]; exact hR
 ·intro h
  cases hv:C3 P s rs with
  | none=>rw [hv] at h; exact h.elim
  | some vs=>rw [hv] at h; exact .ret hv h
theorem Afo:Vc P E n0 rs R [] s=VcR R s (C3 P s rs):=by
 apply propext; constructor
 ·intro h; cases h with | fin h hR=>rw [h]; exact hR
 ·intro h
  cases hv:C3 P s rs with
  | none=>rw [hv] at h; exact h.elim
  | some vs=>rw [hv] at h; exact .fin hv h
theorem UW (vs:List AV):VcR R s (some vs)=R (G4 vs) s:=rfl
theorem Zl:Vc P E n0 rs R (.code .skip::k) s=Vc P E n0 rs R k s:=propext ⟨fun h=>by cases h; assumption,.skip⟩
theorem Afp (x y:Code):Vc P E n0 rs R (.code (.seq x y)::k) s=Vc P E n0 rs R (.code x::.code y::k) s:=propext ⟨fun h=>by cases h; assumption,.seq⟩
theorem UX (id:Nat) (c:Code):Vc P E n0 rs R (.code (.block id c)::k) s=Vc P E n0 rs R (.code c::.inBlock id::k) s:=propext ⟨fun h=>by cases h; assumption,.block⟩
theorem Pl (id:Nat):Vc P E n0 rs R (.inBlock id::k) s=Vc P E n0 rs R k s:=propext ⟨fun h=>by cases h; assumption,.inBlock⟩
theorem Zm (c:Code):Vc P E n0 rs R (.code (.loop c)::k) s=Go P E n0 rs R (.code (.loop c)::k) s:=propext ⟨fun h=>by cases h; assumption,.loop⟩
theorem RN (c:Code):Vc P E n0 rs R (.inLoop c::k) s=Go P E n0 rs R (.inLoop c::k) s:=propext ⟨fun h=>by cases h; assumption,.inLoop⟩
theorem Zn (id:Nat):Vc P E n0 rs R (.code (.exit id)::k) s=VcE P E n0 rs R s (exitTo id k):=by
 apply propext; constructor
 ·intro h; cases h with | exit he h=>rw [he]; exact h
 ·intro h
  cases hv:exitTo id k with
  | none=>rw [hv] at h; exact h.elim
  | some k'=>rw [hv] at h; exact .exit hv h
theorem UY (k:List Item):VcE P E n0 rs R s (some k)=Vc P E n0 rs R k s:=rfl
theorem Pm (id:Nat) (k:List Item):exitTo id (.inBlock id::k)=some k:=by simp [exitTo]
theorem NP (id:Nat) (c:Code) (k:List Item):exitTo id (.code c::k)=exitTo id k:=rfl
theorem KY (id:Nat) (c:Code) (k:List Item):exitTo id (.inLoop c::k)=exitTo id k:=rfl
theorem Zo (c:Operand) (x y:Code):Vc P E n0 rs R (.code (.cond c x y)::k) s=VcC P E n0 rs R x y k s (ev s.T c):=by
 apply propext; constructor
 ·intro h
  cases h with
  | cond t hc h=>
   rw [hc]
   cases t
   ·exact h
   ·exact h
 ·intro h
  generalize hv:ev s.T c=v at h
  cases v with
  | sc u=>
   cases u with
   | bool t=>
    refine .cond t hv ?_
    cases t
    ·exact h
    ·exact h
   | _=>exact h.elim
  | _=>exact h.elim
theorem UZ (x y:Code) (t:Bool):VcC P E n0 rs R x y k s (.sc (.bool t))=if t=true then Vc P E n0 rs R (.code x::k) s else Vc P E n0 rs R (.code y::k) s:=rfl
theorem RO (id:Nat) (ops:Array Oper):Vc P E n0 rs R (.code (.region id ops false)::k) s=VcO P E n0 rs R ops ops.toList k s:=by
 apply propext; constructor
 ·intro h; cases h with | region hr h=>exact ⟨_,hr,h⟩
 ·rintro ⟨s',hr,h⟩; exact .region hr h
theorem Zp (hpm:E.perm id=none) (ops:Array Oper):Vc P E n0 rs R (.code (.region id ops true)::k) s=DM P E ops (Vc P E n0 rs R k) ops.toList 0 s [] []:=by
 apply propext; constructor
 ·intro h
  cases h with
  | draw _ hr h=>exact (Fb _ _ _ _ _).2 ⟨_,hr,h⟩
  | drawP hpm' hr h=>rw [hpm] at hpm'; cases hpm'
  | sem hpm' h=>rw [hpm] at hpm'; cases hpm'
 ·intro h
  obtain ⟨s1,h1,h2⟩:=(Fb _ _ _ _ _).1 h
  exact .draw hpm h1 h2
theorem Zq (all:Array Oper):VcO P E n0 rs R all [] k s=Vc P E n0 rs R k s:=by
 apply propext; constructor
 ·rintro ⟨s',h,h2⟩; simp only [Gb,lx16] at h; subst h; exact h2
 ·intro h; exact ⟨s,rfl,h⟩
theorem RP (all:Array Oper) (o:Oper) (r:List Oper):VcO P E n0 rs R all (o::r) k s=VcS P E n0 rs R all r k (F7 E.lit o (Ah P E all s o) (EX P s o.op o.dst)):=by
 apply propext; constructor
 ·rintro ⟨s',h,h2⟩
  simp only [Gb] at h
  split at h
  ·rename_i s1 h1; exact ⟨s1,h1,s',h,h2⟩
  ·cases h
 ·rintro ⟨s1,h1,s',h,h2⟩
  have h1':Kr P E all s o=some s1:=h1
  exact ⟨s',by simp only [Gb,h1']; exact h,h2⟩
theorem U0 (hl:E.lit=false) (all:Array Oper) (o:Oper) (r:List Oper):VcO P E n0 rs R all (o::r) k s=VcS P E n0 rs R all r k (Ah P E all s o):=by
 rw [RP,hl]; rfl
theorem RQ (hl:E.lit=true) (all:Array Oper) (o:Oper) (r:List Oper):VcO P E n0 rs R all (o::r) k s=VcS P E n0 rs R all r k (F7 true o (Ah P E all s o) (EX P s o.op o.dst)):=by
 rw [RP,hl]
theorem Aq4 (d:Option Nat) (op:Op) (ty:TypeId) (pos:String) (af:Array Edge) (g:Nat × Bool) (x y:Option St):F7 true ⟨d,op,ty,pos,af,some g⟩ x y=x:=by simp [F7]
theorem Aq5 (d:Option Nat) (t:TypeId) (n:Nat) (ps:Array (Nat × Operand)) (ty:TypeId) (pos:String) (af:Array Edge) (x y:Option St):F7 true ⟨d,.buildSlice t n ps,ty,pos,af,none⟩ x y=y:=by simp [F7,CK]
theorem Pn (P:Program) (s:St) (op:Op) (d:Option Nat):EX P s op d=Ac8 s d (AG P s op d):=rfl
theorem RR (T T':List AV) (H H':List Blk) (c c':Nat) (d:Option Nat) (h:norefs (Dh H')=true):Ac8 ⟨T,H,c⟩ d (some ⟨T',H',c'⟩)=some (St.put ⟨T,H,c+1⟩ d (.vw false (Dh H'))):=by simp [Ac8,h]
theorem U1 (all:Array Oper) (r:List Oper) (s:St):VcS P E n0 rs R all r k (some s)=VcO P E n0 rs R all r k s:=by
 apply propext; constructor
 ·rintro ⟨s1,h,h2⟩; cases h; exact h2
 ·intro h; exact ⟨s,rfl,h⟩
end
theorem Po (P:Program) (s:St):C3 P s []=some []:=rfl
theorem Pp (P:Program) (s:St) (t:Nat) (r:List ResultVar):C3 P s (.tmp t::r)=(C3 P s r).map (s.T.getD t .un::·):=rfl
def Axr (v:Option AV) (r:Option (List AV)):Option (List AV):=
 match v with
 | some v=>r.map (v::·)
 | none=>none
theorem NQ (P:Program) (s:St) (t ty:Nat) (r:List ResultVar):C3 P s (.cell t ty::r)=Axr (AH P s (.load ty (.tmp t))) (C3 P s r):=rfl
theorem RS (v:AV) (r:List AV):Axr (some v) (some r)=some (v::r):=rfl
theorem Pq (v:AV):G4 [v]=v:=rfl
theorem Pr (v u:AV) (l:List AV):G4 (v::u::l)=.tu (v::u::l):=rfl
section
variable {P:Program} {E:Env} {all:Array Oper} {s:St} {d:Option Nat} {ty:TypeId} {pos:String} {af:Array Edge}
def gP (s:St) (d:Option Nat) (want:Bool) (v:Option AV):AV→Option St
 | .sc (.bool b)=>(if b=want then v else some .un).map (s.put d)
 | .un=>some (s.put d .un)
 | _=>none
def gH (s:St) (d:Option Nat) (want:Bool) (v:Option St):AV→Option St
 | .sc (.bool b)=>if b=want then v else some (s.put d .un)
 | .un=>some (s.put d .un)
 | _=>none
def oV (s:St) (d:Option Nat) (v:Option AV):Option St:=v.map (s.put d)
theorem Zr (v:AV):oV s d (some v)=some (s.put d v):=rfl
theorem Zs (want:Bool) (v:Option AV) (b:Bool):gP s d want v (.sc (.bool b))=oV s d (if b=want then v else some .un):=rfl
theorem Aq6 (want:Bool) (v:Option AV):gP s d want v .un=some (s.put d .un):=rfl
theorem Zt (want:Bool) (v:Option St) (b:Bool):gH s d want v (.sc (.bool b))=if b=want then v else some (s.put d .un):=rfl
theorem Afq (want:Bool) (v:Option AV) (c:Prop) [Decidable c] (b:Bool):gP s d want v (if c then .sc (.bool b) else .un)=oV s d (if c∧b=want then v else some .un):=by
 by_cases h:c <;> simp [h,gP,oV]
theorem U2 {α:Type} (c:Prop) [Decidable c] (a b:α):(if c then some a else some b)=some (if c then a else b):=by split <;> rfl
theorem U3 (c:Prop) [Decidable c] (a b:Bool):(if c then AV.sc (.bool a) else AV.sc (.bool b))=AV.sc (.bool (if c then a else b)):=by split <;> rfl
theorem Zu (a b:Bool):(if a=true then b else false)=(a && b):=by cases a <;> rfl
theorem Afr (a b:Bool):(if a=true then true else b)=(a || b):=by cases a <;> rfl
theorem C7 (op:Op) (h1:Cs op=false) (h2:isHeapOp op=false):Ah P E all s ⟨d,op,ty,pos,af,none⟩=oV s d (AH P s op):=by
 simp [Ah,AZ,h1,h2,JG,oV]
theorem Dk (op:Op) (h1:Cs op=false) (h2:isHeapOp op=false) (j:Nat) (want:Bool):Ah P E all s ⟨d,op,ty,pos,af,some (j,want)⟩=gP s d want (AH P s op) (Ap all s j):=by
 simp only [Ah,AZ,h1,h2,JG,gP]
 simp only [Dt,lx7,JM,lx6]
 generalize Ap all s j=g
 cases g with
 | sc v=>cases v <;> rfl
 | _=>rfl
theorem I8 (op:Op) (h1:Cs op=false) (h2:isHeapOp op=true):Ah P E all s ⟨d,op,ty,pos,af,none⟩=AG P s op d:=by
 simp [Ah,AZ,h1,h2,Ga]
def KZ (E:Env) (s:St) (d:Option Nat) (b:Bool) (g:Nat) (args:List AV):Option St:=
 if b=true then oV s d (E.pcall g (Al s.H args)) else
  match E.hcall g args s.H s.cnt with
  | some (r,H',cnt')=>some (St.put { s with H:=H',cnt:=cnt' } d r)
  | none=>none
def Afs (E:Env) (s:St) (d:Option Nat) (args:List AV):AV→Option St
 | .fn g caps=>KZ E s d (E.isP g) g (args++caps)
 | _=>none
theorem U4 (args:List AV) (g:Nat) (caps:List AV):Afs E s d args (.fn g caps)=KZ E s d (E.isP g) g (args++caps):=rfl
theorem Zv (g:Nat) (args:List AV):KZ E s d true g args=oV s d (E.pcall g (Al s.H args)):=by simp [KZ]
def Asy (s:St) (d:Option Nat):Option (AV × List Blk × Nat)→Option St
 | some (r,H',cnt')=>some (St.put { s with H:=H',cnt:=cnt' } d r)
 | none=>none
theorem Zw (g:Nat) (args:List AV):KZ E s d false g args=Asy s d (E.hcall g args s.H s.cnt):=by
 simp only [KZ,Asy,Dt,lx7]
theorem RT (T:List AV) (H H':List Blk) (c c':Nat) (r:AV):Asy ⟨T,H,c⟩ d (some (r,H',c'))=some (St.put ⟨T,H',c'⟩ d r):=rfl
theorem Zx (f:Operand) (args:Array Operand) (ats:Array TypeId):Ah P E all s ⟨d,.call ⟨.value f,args,ats⟩,ty,pos,af,none⟩=Afs E s d (args.toList.map (ev s.T)) (ev s.T f):=by
 simp only [Ah,AZ,Cs,lx6,JG,Ga,Fj]
 generalize ev s.T f=v
 cases v with
 | fn g caps=>
  simp only [Afs,KZ,Gy]
  cases E.isP g
  ·simp only [Dt,lx7]
   generalize E.hcall g (List.map (ev s.T) args.toList++caps) s.H s.cnt=hh
   cases hh with
   | none=>rfl
   | some p=>rfl
  ·rfl
 | _=>rfl
def Ps (E:Env) (s:St) (d:Option Nat) (want:Bool) (args:List AV) (g:AV):AV→Option St
 | .fn f caps=>if E.isP f=true then gP s d want (E.pcall f (Al s.H (args++caps))) g else gH s d want (KZ E s d false f (args++caps)) g
 | _=>gP s d want none g
theorem RU (want:Bool) (args:List AV) (g:AV) (f:Nat) (caps:List AV):
  Ps E s d want args g (.fn f caps)=if E.isP f=true then gP s d want (E.pcall f (Al s.H (args++caps))) g else gH s d want (KZ E s d false f (args++caps)) g:=rfl
theorem U5 (f:Operand) (args:Array Operand) (ats:Array TypeId) (j:Nat) (want:Bool):
  Ah P E all s ⟨d,.call ⟨.value f,args,ats⟩,ty,pos,af,some (j,want)⟩=Ps E s d want (args.toList.map (ev s.T)) (Ap all s j) (ev s.T f):=by
 simp only [Ah,AZ,Cs,lx6,JG,Ga,Fj]
 generalize ev s.T f=v
 generalize Ap all s j=g
 cases v with
 | fn h caps=>
  simp only [Ps,KZ,Gy]
  cases E.isP h
  ·simp only [Dt,lx7,gH]
   generalize E.hcall h (List.map (ev s.T) args.toList++caps) s.H s.cnt=hh
   cases g with
   | sc v=>
    cases v with
    | bool b=>cases hh <;> rfl
    | _=>rfl
   | _=>rfl
  ·simp only [lx6,gP]
   cases g with
   | sc v=>cases v <;> rfl
   | _=>rfl
 | _=>
  simp only [Ps,gP]
  cases g with
  | sc v=>cases v <;> rfl
  | _=>rfl
theorem Zy (x:Operand):Ah P E all s ⟨d,.move x,ty,pos,af,none⟩=oV s d (AH P s (.move x)):=C7 _ rfl rfl
theorem RV (x:Operand) (j:Nat) (want:Bool):Ah P E all s ⟨d,.move x,ty,pos,af,some (j,want)⟩=gP s d want (AH P s (.move x)) (Ap all s j):=Dk _ rfl rfl j want
theorem RW (x:Operand):Ah P E all s ⟨d,.assign x,ty,pos,af,none⟩=oV s d (AH P s (.assign x)):=C7 _ rfl rfl
theorem Zz (c a b:Operand):Ah P E all s ⟨d,.pick c a b,ty,pos,af,none⟩=oV s d (AH P s (.pick c a b)):=C7 _ rfl rfl
theorem RX (c a b:Operand) (j:Nat) (want:Bool):Ah P E all s ⟨d,.pick c a b,ty,pos,af,some (j,want)⟩=gP s d want (AH P s (.pick c a b)) (Ap all s j):=Dk _ rfl rfl j want
theorem ZA (t:TypeId) (x:Operand):Ah P E all s ⟨d,.load t x,ty,pos,af,none⟩=oV s d (AH P s (.load t x)):=C7 _ rfl rfl
theorem RY (t:TypeId) (x:Operand) (j:Nat) (want:Bool):Ah P E all s ⟨d,.load t x,ty,pos,af,some (j,want)⟩=gP s d want (AH P s (.load t x)) (Ap all s j):=Dk _ rfl rfl j want
theorem NR (x:Operand):Ah P E all s ⟨d,.nilCheck x,ty,pos,af,none⟩=oV s d (AH P s (.nilCheck x)):=C7 _ rfl rfl
theorem K1 (x:Operand) (j:Nat) (want:Bool):Ah P E all s ⟨d,.nilCheck x,ty,pos,af,some (j,want)⟩=gP s d want (AH P s (.nilCheck x)) (Ap all s j):=Dk _ rfl rfl j want
theorem U6 (op:BinOp) (t:TypeId) (x y:Operand) (t':TypeId):Ah P E all s ⟨d,.binOp op t x y t',ty,pos,af,none⟩=oV s d (AH P s (.binOp op t x y t')):=C7 _ rfl rfl
theorem Pu (op:BinOp) (t:TypeId) (x y:Operand) (t':TypeId) (j:Nat) (want:Bool):Ah P E all s ⟨d,.binOp op t x y t',ty,pos,af,some (j,want)⟩=gP s d want (AH P s (.binOp op t x y t')) (Ap all s j):=Dk _ rfl rfl j want
theorem ZB (op:UnOp) (t:TypeId) (x:Operand):Ah P E all s ⟨d,.unOp op t x,ty,pos,af,none⟩=oV s d (AH P s (.unOp op t x)):=C7 _ rfl rfl
theorem RZ (op:UnOp) (t:TypeId) (x:Operand) (j:Nat) (want:Bool):Ah P E all s ⟨d,.unOp op t x,ty,pos,af,some (j,want)⟩=gP s d want (AH P s (.unOp op t x)) (Ap all s j):=Dk _ rfl rfl j want
theorem Pv (t t':TypeId) (x:Operand):Ah P E all s ⟨d,.convert t t' x,ty,pos,af,none⟩=oV s d (AH P s (.convert t t' x)):=C7 _ rfl rfl
theorem L3 (t t':TypeId) (x:Operand) (j:Nat) (want:Bool):Ah P E all s ⟨d,.convert t t' x,ty,pos,af,some (j,want)⟩=gP s d want (AH P s (.convert t t' x)) (Ap all s j):=Dk _ rfl rfl j want
theorem NS (f:Fn) (a b:Array Operand):Ah P E all s ⟨d,.makeFunc f a b,ty,pos,af,none⟩=oV s d (AH P s (.makeFunc f a b)):=C7 _ rfl rfl
theorem K2 (f:Fn) (a b:Array Operand) (j:Nat) (want:Bool):Ah P E all s ⟨d,.makeFunc f a b,ty,pos,af,some (j,want)⟩=gP s d want (AH P s (.makeFunc f a b)) (Ap all s j):=Dk _ rfl rfl j want
theorem U7 (t:TypeId) (x:Operand) (a b c:Option Operand):Ah P E all s ⟨d,.slice t x a b c,ty,pos,af,none⟩=oV s d (AH P s (.slice t x a b c)):=C7 _ rfl rfl
theorem L4 (t:TypeId) (x:Operand) (f:Nat):Ah P E all s ⟨d,.fieldAddr t x f,ty,pos,af,none⟩=oV s d (AH P s (.fieldAddr t x f)):=C7 _ rfl rfl
theorem JW (t:TypeId) (x:Operand) (f:Nat) (j:Nat) (want:Bool):Ah P E all s ⟨d,.fieldAddr t x f,ty,pos,af,some (j,want)⟩=gP s d want (AH P s (.fieldAddr t x f)) (Ap all s j):=Dk _ rfl rfl j want
theorem L5 (t:TypeId) (x y:Operand):Ah P E all s ⟨d,.indexAddr t x y,ty,pos,af,none⟩=oV s d (AH P s (.indexAddr t x y)):=C7 _ rfl rfl
theorem JX (t:TypeId) (x y:Operand) (j:Nat) (want:Bool):Ah P E all s ⟨d,.indexAddr t x y,ty,pos,af,some (j,want)⟩=gP s d want (AH P s (.indexAddr t x y)) (Ap all s j):=Dk _ rfl rfl j want
theorem U8 (t:TypeId) (x y:Operand):Ah P E all s ⟨d,.index t x y,ty,pos,af,none⟩=oV s d (AH P s (.index t x y)):=C7 _ rfl rfl
theorem Pw (t:TypeId) (x y:Operand) (j:Nat) (want:Bool):Ah P E all s ⟨d,.index t x y,ty,pos,af,some (j,want)⟩=gP s d want (AH P s (.index t x y)) (Ap all s j):=Dk _ rfl rfl j want
theorem Px (x:Operand) (i:Nat):Ah P E all s ⟨d,.extract x i,ty,pos,af,none⟩=oV s d (AH P s (.extract x i)):=C7 _ rfl rfl
theorem U9 (t:TypeId) (ps:Array (Nat × Operand)):Ah P E all s ⟨d,.build t ps,ty,pos,af,none⟩=oV s d (AH P s (.build t ps)):=C7 _ rfl rfl
theorem Py (t:TypeId) (ps:Array (Nat × Operand)) (j:Nat) (want:Bool):Ah P E all s ⟨d,.build t ps,ty,pos,af,some (j,want)⟩=gP s d want (AH P s (.build t ps)) (Ap all s j):=Dk _ rfl rfl j want
theorem Aft (a:Array Operand) (b:Array TypeId):Ah P E all s ⟨d,.call ⟨.builtin .len,a,b⟩,ty,pos,af,none⟩=oV s d (AH P s (.call ⟨.builtin .len,a,b⟩)):=C7 _ rfl rfl
theorem Va (a:Array Operand) (b:Array TypeId) (j:Nat) (want:Bool):Ah P E all s ⟨d,.call ⟨.builtin .len,a,b⟩,ty,pos,af,some (j,want)⟩=gP s d want (AH P s (.call ⟨.builtin .len,a,b⟩)) (Ap all s j):=Dk _ rfl rfl j want
theorem Afu (a:Array Operand) (b:Array TypeId):Ah P E all s ⟨d,.call ⟨.builtin .min,a,b⟩,ty,pos,af,none⟩=oV s d (AH P s (.call ⟨.builtin .min,a,b⟩)):=C7 _ rfl rfl
theorem Vb (a:Array Operand) (b:Array TypeId) (j:Nat) (want:Bool):Ah P E all s ⟨d,.call ⟨.builtin .min,a,b⟩,ty,pos,af,some (j,want)⟩=gP s d want (AH P s (.call ⟨.builtin .min,a,b⟩)) (Ap all s j):=Dk _ rfl rfl j want
theorem Afv (a:Array Operand) (b:Array TypeId):Ah P E all s ⟨d,.call ⟨.builtin .max,a,b⟩,ty,pos,af,none⟩=oV s d (AH P s (.call ⟨.builtin .max,a,b⟩)):=C7 _ rfl rfl
theorem Vd (t:TypeId):Ah P E all s ⟨d,.alloc t,ty,pos,af,none⟩=AG P s (.alloc t) d:=I8 _ rfl rfl
theorem Afw (t:TypeId) (x:Operand):Ah P E all s ⟨d,.box t x,ty,pos,af,none⟩=AG P s (.box t x) d:=I8 _ rfl rfl
theorem K3 (t:TypeId) (n:Nat) (ps:Array (Nat × Operand)):Ah P E all s ⟨d,.buildSlice t n ps,ty,pos,af,none⟩=AG P s (.buildSlice t n ps) d:=I8 _ rfl rfl
theorem Ve (t:TypeId) (x y:Operand):Ah P E all s ⟨d,.store t x y,ty,pos,af,none⟩=AG P s (.store t x y) d:=I8 _ rfl rfl
theorem L6 (t:TypeId) (x y:Operand):Ah P E all s ⟨d,.makeSlice t x y,ty,pos,af,none⟩=AG P s (.makeSlice t x y) d:=I8 _ rfl rfl
theorem R0 (a:Array Operand) (b:Array TypeId):Ah P E all s ⟨d,.call ⟨.builtin .append,a,b⟩,ty,pos,af,none⟩=AG P s (.call ⟨.builtin .append,a,b⟩) d:=I8 _ rfl rfl
theorem Vf (a:Array Operand) (b:Array TypeId):Ah P E all s ⟨d,.call ⟨.builtin .clear,a,b⟩,ty,pos,af,none⟩=AG P s (.call ⟨.builtin .clear,a,b⟩) d:=I8 _ rfl rfl
theorem Afx (T:List AV) (t:Nat):ev T (.tmp t)=T.getD t .un:=rfl
theorem ZC (T:List AV) (f:Nat):ev T (.func f)=.fn f []:=rfl
theorem Afy (T:List AV) (k:IntKind) (n:Int):ev T (.const (.int k n))=.sc (.int k n):=rfl
theorem ZD (T:List AV) (b:Bool):ev T (.const (.bool b))=.sc (.bool b):=rfl
theorem Afz (T:List AV) (b:ByteArray):ev T (.const (.string b))=.sc (.string b):=rfl
theorem Ag0 (T:List AV):ev T (.const (.slice none 0 0))=.vw true []:=rfl
theorem R3 (x:Operand):AH P s (.move x)=some (ev s.T x):=rfl
theorem NT (x:Operand):AH P s (.assign x)=some (ev s.T x):=rfl
def Ag1 (a b:AV):AV→Option AV
 | .sc (.bool t)=>some (if t=true then a else b)
 | _=>none
theorem R4 (c a b:Operand):AH P s (.pick c a b)=Ag1 (ev s.T a) (ev s.T b) (ev s.T c):=by
 simp only [AH,Ag1]
 generalize ev s.T c=v
 cases v with
 | sc v=>cases v <;> rfl
 | _=>rfl
theorem Pz (a b:AV) (t:Bool):Ag1 a b (.sc (.bool t))=some (if t=true then a else b):=rfl
def ldE (d:TyD) (off:Nat):Option AV→Option AV
 | some e=>Fa d e.cells off
 | none=>none
def ldB (d:TyD) (i off:Nat):Option Blk→Option AV
 | some B=>ldE d off B.els[i]?
 | none=>none
def ldV (d:TyD) (off:Nat):Option AV→Option AV
 | some e=>match Fa d e.cells off with
  | some v=>if v.noref=true then some v else none
  | none=>none
 | none=>none
def ZE (H:List Blk):Option TyD→AV→Option AV
 | some d,.pt id ver i off=>ldB d i off (AO H id ver)
 | some d,.vp es i off=>ldV d off es[i]?
 | _,_=>none
theorem R5 (t:TypeId) (x:Operand):AH P s (.load t x)=ZE s.H (Bp P t) (ev s.T x):=by
 simp only [AH,ZE,ldB,ldE,ldV]
 generalize ev s.T x=v
 generalize Bp P t=d
 cases d with
 | none=>rfl
 | some d=>cases v <;> rfl
theorem Vg (H:List Blk) (d:TyD) (id ver i off:Nat):ZE H (some d) (.pt id ver i off)=ldB d i off (AO H id ver):=rfl
theorem Vh (H:List Blk) (d:TyD) (es:List AV) (i off:Nat):ZE H (some d) (.vp es i off)=ldV d off es[i]?:=rfl
theorem Vi (d:TyD) (i off:Nat) (B:Blk):ldB d i off (some B)=ldE d off B.els[i]?:=rfl
theorem Vj (d:TyD) (off:Nat) (e:AV):ldE d off (some e)=Fa d e.cells off:=rfl
def ldW:Option AV→Option AV
 | some v=>if v.noref=true then some v else none
 | none=>none
theorem Vk (d:TyD) (off:Nat) (e:AV):ldV d off (some e)=ldW (Fa d e.cells off):=rfl
theorem Vl (v:AV):ldW (some v)=if v.noref=true then some v else none:=rfl
theorem R6 (sz bytes:Nat) (zero el len fl) (cs:List AV) (off:Nat):Fa ⟨true,sz,bytes,zero,el,len,fl⟩ cs off=if off+sz≤cs.length then some (.ag ((cs.drop off).take sz)) else none:=rfl
theorem R7 (sz bytes:Nat) (zero el len fl) (cs:List AV) (off:Nat):Fa ⟨false,sz,bytes,zero,el,len,fl⟩ cs off=cs[off]?:=rfl
theorem Vm (cs:List AV):AV.cells (.ag cs)=cs:=rfl
theorem Vo (v:Value):AV.cells (.sc v)=[.sc v]:=rfl
theorem Vp (z:Bool) (es:List AV):AV.cells (.vw z es)=[.vw z es]:=rfl
theorem Vq (a b c d:Nat):AV.cells (.sl a b c d)=[.sl a b c d]:=rfl
theorem L7 (z:Bool) (es:List AV):AV.noref (.vw z es)=true:=by simp [AV.noref]
theorem NU (a:AV) (r:List AV):norefs (a::r)=(a.noref && norefs r):=by simp [norefs]
def Ff (P:Program) (op:BinOp) (t:TypeId) (x y:Operand) (u v:AV):Option AV:=
 match Cr u,Cr v with
 | some a,some b=>match B8 P (do eqGuard op t x y a b; binOp op t a b) with
  | some v=>some (LM v)
  | none=>none
 | _,_=>Ac7 P op t u y
theorem I9 (op:BinOp) (t t':TypeId) (x y:Operand):AH P s (.binOp op t x y t')=Ff P op t x y (LS s.H (ev s.T x)) (ev s.T y):=rfl
theorem ZF (H:List Blk) (v:Value):LS H (.sc v)=.sc v:=rfl
theorem ZG (H:List Blk) (l:List AV):LS H (.ag l)=.ag l:=rfl
theorem ZH (H:List Blk) (z:Bool) (l:List AV):LS H (.vw z l)=.vw z l:=rfl
theorem NV (t:TypeId) (x:Operand) (u:AV):Ff P .eql t x (.const (.slice none 0 0)) u (.vw true [])=UA .eql (O0 P t) (JR u):=by
 unfold Ff
 cases Cr u <;> rfl
theorem Vr (b:Bool):UA .eql true (some b)=some (.sc (.bool b)):=rfl
theorem Vs (z:Bool) (e:AV) (l:List AV):JR (.vw z (e::l))=some false:=rfl
theorem Vt (l c:Nat):JR (.sc (.slice none l c))=some true:=rfl
theorem Vu (a:Addr) (l c:Nat):JR (.sc (.slice (some a) l c))=some false:=rfl
theorem Acn {op:BinOp} {t:TypeId} {x y:Operand} {k k':IntKind} {a b:Int} {v:Value} (h:rd P (binOp op t (.int k a) (.int k' b)) default=some v):
  B8 P (do eqGuard op t x y (.int k a) (.int k' b); binOp op t (.int k a) (.int k' b))=some v:=by
 unfold B8
 rw [Ak]
 have:rd P (eqGuard op t x y (.int k a) (.int k' b)) default=some ():=by
  unfold eqGuard
  split <;> rfl
 rw [this]
 exact h
section
variable (t:TypeId) (x y:Operand) (k:IntKind) (a b:Int)
theorem EN {op:BinOp} {k k':IntKind} {v:Value} (h:rd P (binOp op t (.int k a) (.int k' b)) default=some v):Ff P op t x y (.sc (.int k a)) (.sc (.int k' b))=some (LM v):=by
 simp only [Ff,Cr,Acn h]
theorem Tl:Ff P .add t x y (.sc (.int k a)) (.sc (.int k b))=some (.sc (.int k (k.wrap (a+b)))):=EN _ _ _ _ _ (v:=.int k (k.wrap (a+b))) (by simp [binOp,Op.intArith,An])
theorem Tm:Ff P .sub t x y (.sc (.int k a)) (.sc (.int k b))=some (.sc (.int k (k.wrap (a - b)))):=EN _ _ _ _ _ (v:=.int k (k.wrap (a - b))) (by simp [binOp,Op.intArith,An])
theorem ZI:Ff P .mul t x y (.sc (.int k a)) (.sc (.int k b))=some (.sc (.int k (k.wrap (a * b)))):=EN _ _ _ _ _ (v:=.int k (k.wrap (a * b))) (by simp [binOp,Op.intArith,An])
theorem Tn:Ff P .eql t x y (.sc (.int k a)) (.sc (.int k b))=some (.sc (.bool (a == b))):=EN _ _ _ _ _ (v:=.bool (a == b)) (by simp [binOp,Op.intCmp,An])
theorem Ts:Ff P .neq t x y (.sc (.int k a)) (.sc (.int k b))=some (.sc (.bool (a != b))):=EN _ _ _ _ _ (v:=.bool (a != b)) (by simp [binOp,Op.intCmp,An])
theorem Tt:Ff P .lss t x y (.sc (.int k a)) (.sc (.int k b))=some (.sc (.bool (decide (a < b)))):=EN _ _ _ _ _ (v:=.bool (decide (a < b))) (by simp [binOp,Op.intCmp,An])
theorem Tu:Ff P .leq t x y (.sc (.int k a)) (.sc (.int k b))=some (.sc (.bool (decide (a≤b)))):=EN _ _ _ _ _ (v:=.bool (decide (a≤b))) (by simp [binOp,Op.intCmp,An])
theorem Tv:Ff P .gtr t x y (.sc (.int k a)) (.sc (.int k b))=some (.sc (.bool (decide (b < a)))):=EN _ _ _ _ _ (v:=.bool (decide (b < a))) (by simp [binOp,Op.intCmp,An])
theorem Tw:Ff P .geq t x y (.sc (.int k a)) (.sc (.int k b))=some (.sc (.bool (decide (b≤a)))):=EN _ _ _ _ _ (v:=.bool (decide (b≤a))) (by simp [binOp,Op.intCmp,An])
theorem ZJ (h:b≠0):Ff P .quo t x y (.sc (.int k a)) (.sc (.int k b))=some (.sc (.int k (k.wrap (a.tdiv b)))):=EN _ _ _ _ _ (v:=.int k (k.wrap (a.tdiv b))) (by simp [binOp,Op.intDiv,An,h])
theorem ZK (h:b≠0):Ff P .rem t x y (.sc (.int k a)) (.sc (.int k b))=some (.sc (.int k (a.tmod b))):=EN _ _ _ _ _ (v:=.int k (a.tmod b)) (by simp [binOp,Op.intDiv,An,h])
def EO (op:BinOp) (k:IntKind) (a b:Int):Int:=
 let x:=BitVec.ofInt k.bits a
 let y:=BitVec.ofInt k.bits b
 k.wrap ((match op with | .and=>x &&& y | .or=>x ||| y | .xor=>x ^^^ y | _=>x &&& ~~~y).toNat)
theorem ZL:Ff P .and t x y (.sc (.int k a)) (.sc (.int k b))=some (.sc (.int k (EO .and k a b))):=EN _ _ _ _ _ (v:=.int k (EO .and k a b)) (by simp [binOp,Op.intBits,An,EO])
theorem Ag2:Ff P .or t x y (.sc (.int k a)) (.sc (.int k b))=some (.sc (.int k (EO .or k a b))):=EN _ _ _ _ _ (v:=.int k (EO .or k a b)) (by simp [binOp,Op.intBits,An,EO])
theorem PA:Ff P .andNot t x y (.sc (.int k a)) (.sc (.int k b))=some (.sc (.int k (EO .andNot k a b))):=EN _ _ _ _ _ (v:=.int k (EO .andNot k a b)) (by simp [binOp,Op.intBits,An,EO])
def M5 (k:IntKind) (a b:Int):Int:=k.wrap (a * 2 ^ (min b.toNat k.bits))
def ID (k:IntKind) (a b:Int):Int:=a.fdiv (2 ^ (min b.toNat k.bits))
theorem ZM (k':IntKind) (h:0≤b):Ff P .shl t x y (.sc (.int k a)) (.sc (.int k' b))=some (.sc (.int k (M5 k a b))):=EN _ _ _ _ _ (v:=.int k (M5 k a b)) (by
 have h':¬ b < 0:=Ai
 simp [binOp,Op.shift,An,M5,h'])
theorem ZN (k':IntKind) (h:0≤b):Ff P .shr t x y (.sc (.int k a)) (.sc (.int k' b))=some (.sc (.int k (ID k a b))):=EN _ _ _ _ _ (v:=.int k (ID k a b)) (by
 have h':¬ b < 0:=Ai
 simp [binOp,Op.shift,An,ID,h'])
end
def unA (P:Program) (op:UnOp) (u:AV):Option AV:=
 match Cr u with
 | some a=>match B8 P (Op.unary op a) with
  | some v=>some (LM v)
  | none=>none
 | none=>none
theorem R8 (op:UnOp) (t:TypeId) (x:Operand):AH P s (.unOp op t x)=unA P op (ev s.T x):=rfl
theorem Ag3 (b:Bool):unA P .not (.sc (.bool b))=some (.sc (.bool (!b))):=rfl
theorem Ag4 (k:IntKind) (n:Int):unA P .neg (.sc (.int k n))=some (.sc (.int k (k.wrap (0 - n)))):=rfl
def cvA (P:Program) (src dst:TypeId) (u:AV):Option AV:=
 match Cr u with
 | some a=>match B8 P (convert src dst a) with
  | some v=>some (LM v)
  | none=>none
 | none=>none
theorem Rd (src dst:TypeId) (x:Operand):AH P s (.convert src dst x)=cvA P src dst (ev s.T x):=rfl
theorem Asz {src dst:TypeId} {ks kd:IntKind} (h1:P.underlying src=some (.int ks)) (h2:P.underlying dst=some (.int kd)) (k:IntKind) (n:Int):
  cvA P src dst (.sc (.int k n))=some (.sc (.int kd (kd.wrap n))):=by
 have:B8 P (convert src dst (.int k n))=some (.int kd (kd.wrap n)):=by
  unfold B8 convert
  simp only [Ak,AF,h1,h2,lx17]
  rfl
 simp only [cvA,Cr,this]; rfl
def cvX (P:Program) (src dst:TypeId) (u:AV):Option TypeDesc→Option TypeDesc→Option AV
 | some (.int _),some (.int kd)=>match u with
  | .sc (.int _ n)=>some (.sc (.int kd (kd.wrap n)))
  | _=>cvA P src dst u
 | _,_=>cvA P src dst u
theorem Fm (src dst:TypeId) (x:Operand):AH P s (.convert src dst x)=cvX P src dst (ev s.T x) (P.underlying src) (P.underlying dst):=by
 rw [Rd]
 generalize ev s.T x=u
 unfold cvX
 split
 ·rename_i h1 h2
  split
  ·exact Asz h1 h2 _ _
  ·rfl
 ·rfl
theorem Ow (src dst:TypeId) (ks kd k:IntKind) (n:Int):cvX P src dst (.sc (.int k n)) (some (.int ks)) (some (.int kd))=some (.sc (.int kd (kd.wrap n))):=rfl
def faA (H:List Blk) (off:Nat):AV→Option AV
 | .pt id ver i o=>match AO H id ver with
  | some _=>some (.pt id ver i (o+off))
  | none=>none
 | .vp es i o=>some (.vp es i (o+off))
 | _=>none
def faD (P:Program) (H:List Blk) (v:AV):Option (Nat × Nat)→Option AV
 | some (off,ft)=>match Bp P ft with
  | some df=>if df.sz=0 then none else faA H off v
  | none=>none
 | none=>none
def faT (P:Program) (H:List Blk) (f:Nat) (v:AV):Option TyD→Option AV
 | some d=>faD P H v d.flds[f]?
 | none=>none
theorem JY (t:TypeId) (x:Operand) (f:Nat):AH P s (.fieldAddr t x f)=faT P s.H f (ev s.T x) (Bp P t):=by
 simp only [AH,faT,faD,faA]
 cases Bp P t with
 | none=>rfl
 | some d=>
  simp only
  cases d.flds[f]? with
  | none=>rfl
  | some p=>
   obtain ⟨off,ft⟩:=p
   simp only
   cases Bp P ft with
   | none=>rfl
   | some df=>
    simp only
    split
    ·rfl
    ·cases ev s.T x <;> rfl
theorem Vv (H:List Blk) (f:Nat) (v:AV) (d:TyD):faT P H f v (some d)=faD P H v d.flds[f]?:=rfl
def faS (H:List Blk) (off:Nat) (v:AV):Option TyD→Option AV
 | some df=>if df.sz=0 then none else faA H off v
 | none=>none
theorem Vw (H:List Blk) (v:AV) (off ft:Nat):faD P H v (some (off,ft))=faS H off v (Bp P ft):=rfl
theorem Vx (H:List Blk) (off:Nat) (v:AV) (d:TyD):faS H off v (some d)=if d.sz=0 then none else faA H off v:=rfl
def faL (o:Option Blk) (v:AV):Option AV:=match o with | some _=>some v | none=>none
theorem Ag5 (H:List Blk) (off id ver i o:Nat):faA H off (.pt id ver i o)=faL (AO H id ver) (.pt id ver i (o+off)):=rfl
theorem Ag6 (H:List Blk) (off i o:Nat) (es:List AV):faA H off (.vp es i o)=some (.vp es i (o+off)):=rfl
theorem Vy (B:Blk) (v:AV):faL (some B) v=some v:=rfl
theorem K4 (x:Operand):AH P s (.nilCheck x)=(match ev s.T x with
  | .pt id ver i off=>faL (AO s.H id ver) (.pt id ver i off)
  | .vp es i off=>some (.vp es i off)
  | .fn f cs=>some (.fn f cs)
  | _=>none):=rfl
theorem L8 (x:Operand) (i:Nat):AH P s (.extract x i)=(match ev s.T x with | .tu vs=>vs[i]? | _=>none):=rfl
end
section
variable {E:Env} {s:St}
theorem ZO {κ:Nat→Bool} (x:Operand):Cy κ (.move x)=false:=rfl
theorem R9 {κ:Nat→Bool} (x:Operand):Cy κ (.assign x)=false:=rfl
theorem ZP {κ:Nat→Bool} (a b c:Operand):Cy κ (.pick a b c)=false:=rfl
theorem Vz {κ:Nat→Bool} (op:BinOp) (t:TypeId) (x y:Operand) (t':TypeId):Cy κ (.binOp op t x y t')=false:=rfl
theorem ZQ {κ:Nat→Bool} (op:UnOp) (t:TypeId) (x:Operand):Cy κ (.unOp op t x)=false:=rfl
theorem PB {κ:Nat→Bool} (a b:TypeId) (x:Operand):Cy κ (.convert a b x)=false:=rfl
theorem PC {κ:Nat→Bool} (x:Operand) (i:Nat):Cy κ (.extract x i)=false:=rfl
theorem VA {κ:Nat→Bool} (t:TypeId) (ps:Array (Nat × Operand)):Cy κ (.build t ps)=false:=rfl
theorem ZR {κ:Nat→Bool} (t:TypeId) (x:Operand):Cy κ (.load t x)=false:=rfl
theorem NW {κ:Nat→Bool} (x:Operand):Cy κ (.nilCheck x)=false:=rfl
theorem L9 {κ:Nat→Bool} (t:TypeId) (x:Operand) (f:Nat):Cy κ (.fieldAddr t x f)=false:=rfl
theorem Ma {κ:Nat→Bool} (t:TypeId) (x y:Operand):Cy κ (.indexAddr t x y)=false:=rfl
theorem VB {κ:Nat→Bool} (t:TypeId) (x:Operand) (a b c:Option Operand):Cy κ (.slice t x a b c)=false:=rfl
theorem VC {κ:Nat→Bool} (g:Nat) (a:Array Operand) (b:Array TypeId):Cy κ (.call ⟨.value (.func g),a,b⟩)=κ g:=rfl
theorem VD {κ:Nat→Bool} (t:Nat) (a:Array Operand) (b:Array TypeId):Cy κ (.call ⟨.value (.tmp t),a,b⟩)=false:=rfl
theorem Ag7 {κ:Nat→Bool} (a:Array Operand) (b:Array TypeId):Cy κ (.call ⟨.builtin .len,a,b⟩)=false:=rfl
theorem Ag8 {κ:Nat→Bool} (a:Array Operand) (b:Array TypeId):Cy κ (.call ⟨.builtin .min,a,b⟩)=false:=rfl
theorem Ag9 {κ:Nat→Bool} (a:Array Operand) (b:Array TypeId):Cy κ (.call ⟨.builtin .max,a,b⟩)=false:=rfl
theorem Aga {κ:Nat→Bool} (t:TypeId) (x:Operand):Cy κ (.box t x)=true:=rfl
theorem VE {κ:Nat→Bool} (t:TypeId):Cy κ (.alloc t)=true:=rfl
theorem VF {κ:Nat→Bool} (t:TypeId) (x y:Operand):Cy κ (.store t x y)=true:=rfl
theorem K5 {κ:Nat→Bool} (t:TypeId) (n:Nat) (ps:Array (Nat × Operand)):Cy κ (.buildSlice t n ps)=true:=rfl
theorem Mb {κ:Nat→Bool} (t:TypeId) (x y:Operand):Cy κ (.makeSlice t x y)=true:=rfl
theorem Sa {κ:Nat→Bool} (a:Array Operand) (b:Array TypeId):Cy κ (.call ⟨.builtin .append,a,b⟩)=true:=rfl
theorem ZS (x:Operand):AU (.move x)=true:=rfl
theorem Sb (x:Operand):AU (.assign x)=true:=rfl
theorem ZV (a b c:Operand):AU (.pick a b c)=true:=rfl
theorem VG (op:BinOp) (t:TypeId) (x y:Operand) (t':TypeId):AU (.binOp op t x y t')=!Aff y:=rfl
theorem VH (x:Nat):Aff (.tmp x)=false:=rfl
theorem VI (k:IntKind) (n:Int):Aff (.const (.int k n))=false:=rfl
theorem ZW (op:UnOp) (t:TypeId) (x:Operand):AU (.unOp op t x)=true:=rfl
theorem PD (a b:TypeId) (x:Operand):AU (.convert a b x)=true:=rfl
theorem PE (x:Operand) (i:Nat):AU (.extract x i)=true:=rfl
theorem VJ (t:TypeId) (ps:Array (Nat × Operand)):AU (.build t ps)=true:=rfl
theorem ZY (t:TypeId) (x:Operand):AU (.load t x)=false:=rfl
theorem NY (x:Operand):AU (.nilCheck x)=false:=rfl
theorem Mc (t:TypeId) (x:Operand) (f:Nat):AU (.fieldAddr t x f)=false:=rfl
theorem Md (t:TypeId) (x y:Operand):AU (.indexAddr t x y)=false:=rfl
theorem VK (t:TypeId) (x:Operand) (a b c:Option Operand):AU (.slice t x a b c)=false:=rfl
theorem ZZ (f:Operand) (a:Array Operand) (b:Array TypeId):AU (.call ⟨.value f,a,b⟩)=false:=rfl
theorem Agb (a:Array Operand) (b:Array TypeId):AU (.call ⟨.builtin .len,a,b⟩)=false:=rfl
theorem Agc (a:Array Operand) (b:Array TypeId):AU (.call ⟨.builtin .min,a,b⟩)=true:=rfl
theorem Agd (a:Array Operand) (b:Array TypeId):AU (.call ⟨.builtin .max,a,b⟩)=true:=rfl
theorem Age (t:TypeId) (x:Operand):AU (.box t x)=false:=rfl
theorem VM (t:TypeId):AU (.alloc t)=false:=rfl
theorem VN (t:TypeId) (x y:Operand):AU (.store t x y)=false:=rfl
theorem K6 (t:TypeId) (n:Nat) (ps:Array (Nat × Operand)):AU (.buildSlice t n ps)=false:=rfl
theorem Me (t:TypeId) (x y:Operand):AU (.makeSlice t x y)=false:=rfl
theorem Sc (a:Array Operand) (b:Array TypeId):AU (.call ⟨.builtin .append,a,b⟩)=false:=rfl
end
def DN:List (Nat × (List AV→Option AV))→Nat→Bool
 | [],_=>false
 | (g,_)::r,f=>if f=g then true else DN r f
def pl:List (Nat × (List AV→Option AV))→Nat→List AV→Option AV
 | [],_,_=>none
 | (g,F)::r,f,a=>if f=g then F a else pl r f a
def XS (l:List (Nat × (List AV→Option AV))):Env:=⟨DN l,pl l,fun _ _ _ _=>none,false,fun _=>none,fun _=>false⟩
theorem VO (l:List (Nat × (List AV→Option AV))):(XS l).lit=false:=rfl
theorem Sd (l:List (Nat × (List AV→Option AV))) (i:Nat):(XS l).perm i=none:=rfl
theorem VP (l:List (Nat × (List AV→Option AV))) (f:Nat):(XS l).isP f=DN l f:=rfl
theorem PF (l:List (Nat × (List AV→Option AV))) (f:Nat) (a:List AV):(XS l).pcall f a=pl l f a:=rfl
def DK (P:Program) (g:Nat) (F:List AV→Option AV):Prop:=∀ args r,F args=some r→Di P g args r
inductive POks (P:Program):List (Nat × (List AV→Option AV))→Prop
 | nil:POks P []
 | cons {g F r} (h:DK P g F) (t:POks P r):POks P ((g,F)::r)
theorem Mf {P:Program} {l:List (Nat × (List AV→Option AV))} (h:POks P l):EnvOk P (XS l) where
 p f args r he:=by
  simp only [XS] at he
  induction h with
  | nil=>simp [pl] at he
  | @cons g F l h t ih=>
   simp only [pl] at he
   split at he
   ·rename_i hh; subst hh; exact h args r he
   ·exact ih he
 h f args H cnt r H' cnt' he:=by simp [XS] at he
theorem Agf {c p q:Prop} [Decidable c] (h:c→p) (h':¬ c→q):if c then p else q:=by split <;> simp_all
end Go.SX
namespace Go.SX
def NZ:List AV→List AV→Prop
 | [],[]=>True
 | a::T,b::T'=>(b=.jk∨a=b)∧NZ T T'
 | _,_=>False
theorem Se:NZ [] []=True:=rfl
theorem PG (a b:AV) (T T':List AV):NZ (a::T) (b::T')=((b=.jk∨a=b)∧NZ T T'):=rfl
theorem PH:∀ {T T':List AV},NZ T T'→T.length=T'.length∧∀ (i:Nat) (b:AV),T'[i]?=some b→b=.jk∨T[i]?=some b
 | [],[],_=>⟨rfl,fun i b h=>by simp at h⟩
 | a::T,b::T',h=>by
  obtain ⟨h1,h2⟩:=h
  obtain ⟨e1,e2⟩:=PH h2
  refine ⟨by simp [e1],fun i c hc=>?_⟩
  cases i with
  | zero=>
   simp at hc ⊢
   subst hc
   exact h1
  | succ i=>simp at hc ⊢; exact e2 i c hc
 | [],_::_,h=>h.elim
 | _::_,[],h=>h.elim
def JZ:List Blk→List Blk→Prop
 | _,[]=>True
 | [],b::H'=>b.live=false∧JZ [] H'
 | a::H,b::H'=>(b.live=false∨a=b)∧JZ H H'
theorem Sf (H:List Blk):JZ H []=True:=by cases H <;> rfl
theorem PI (a b:Blk) (H H':List Blk):JZ (a::H) (b::H')=((b.live=false∨a=b)∧JZ H H'):=rfl
theorem Lq:∀ {H H':List Blk},JZ H H'→∀ (i:Nat) (b:Blk),H'[i]?=some b→b.live=true→H[i]?=some b
 | _,[],_,i,b,h,_=>by simp at h
 | [],b::H',h,i,c,hc,hl=>by
  cases i with
  | zero=>simp at hc; subst hc; rw [h.1] at hl; cases hl
  | succ i=>simp at hc; have:=Lq h.2 i c hc hl; simp at this
 | a::H,b::H',h,i,c,hc,hl=>by
  cases i with
  | zero=>
   simp at hc ⊢; subst hc
   rcases h.1 with h1 | h1
   ·rw [h1] at hl; cases hl
   ·exact h1
  | succ i=>simp at hc ⊢; exact Lq h.2 i c hc hl
section
variable {P:Program} {E:Env} {n0:Nat} {rs:List ResultVar} {R:AV→St→Prop}
theorem Av {k:List Item} {T T':List AV} {H H':List Blk} {c c':Nat} (hT:NZ T T') (hH:JZ H H') (hc:c≤c') (h:Go P E n0 rs R k ⟨T',H',c'⟩):Go P E n0 rs R k ⟨T,H,c⟩:=by
 refine .ghost (s':=⟨T',H',c'⟩) (fun w X loc a hs=>?_) h
 obtain ⟨h1,h2,h3⟩:=hs
 obtain ⟨g1,g2⟩:=Ry (H':=H') (cnt':=c') h1 (Lq hH) hc
 refine ⟨X,loc,⟨g1,?_,h3⟩,fun w0 X0 Cj _ he=>he.trans g2⟩
 obtain ⟨e1,e2⟩:=PH hT
 refine ⟨e1.symm.trans h2.1,fun i b v hb hv=>?_⟩
 rcases e2 i b hb with rfl | hb'
 ·exact .jk
 ·exact (h2.2 i b v hb' hv).mono g2 h1
theorem Akx {σ:Type} (I:σ→Nat→St) (Inv:σ→Prop) (μ:σ→Nat) {c:Code} {k:List Item}
  (hb:∀ x cnt,Inv x→(∀ x' cnt',Inv x'→μ x' < μ x→Go P E n0 rs R (.inLoop c::k) (I x' cnt'))→Go P E n0 rs R (.code c::.inLoop c::k) (I x cnt))
  (x:σ) (cnt:Nat) (h:Inv x):Go P E n0 rs R (.code (.loop c)::k) (I x cnt):=by
 have:∀ n x cnt,μ x < n→Inv x→Go P E n0 rs R (.code c::.inLoop c::k) (I x cnt):=by
  intro n
  induction n with
  | zero=>intro x cnt h; omega
  | succ n ih=>intro x cnt h h'; exact hb x cnt h' (fun x' cnt' h1 h2=>.inLoop (ih x' cnt' (by omega) h1))
 exact .loop (this _ x cnt (Iv _) h)
theorem Am {σ:Type} (I:σ→Nat→St) (Inv:σ→Prop) (μ:σ→Nat) (x:σ) {c:Code} {k:List Item} {T:List AV} {H:List Blk} {cnt:Nat}
  (h:Inv x) (hw:NZ T (I x cnt).T) (hh:JZ H (I x cnt).H) (hcn:(I x cnt).cnt=cnt)
  (hb:∀ x cnt,Inv x→(∀ x' cnt',Inv x'→μ x' < μ x→Go P E n0 rs R (.inLoop c::k) (I x' cnt'))→Go P E n0 rs R (.code c::.inLoop c::k) (I x cnt)):
  Go P E n0 rs R (.code (.loop c)::k) ⟨T,H,cnt⟩:=
 Av hw hh (Nat.le_of_eq hcn.symm) (Akx I Inv μ hb x cnt h)
end
theorem D6 {x:Int} (h:0≤x) (h':x < 18446744073709551616):IntKind.u64.wrap x=x:=by
 exact Ape
theorem Kv {x:Int} (h:0≤x) (h':x < 4294967296):IntKind.u32.wrap x=x:=by
 exact Ape
def D2:Nat→List (Nat × AV)→AV
 | _,[]=>.jk
 | i,(j,v)::l=>if i=j then v else D2 i l
def Bm:Nat→Nat→List (Nat × AV)→List AV
 | _,0,_=>[]
 | i,n+1,l=>D2 i l::Bm (i+1) n l
end Go.SX
