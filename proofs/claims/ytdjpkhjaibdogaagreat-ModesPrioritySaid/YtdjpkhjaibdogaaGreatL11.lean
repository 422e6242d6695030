/-
  Lemmas towards ModesPriority (joined texts: SXB).
  Conditions: none.
-/
import Derived.Test.YtdjpkhjaibdogaaGreatL01
import Derived.Test.YtdjpkhjaibdogaaGreatL10
set_option linter.unusedSimpArgs false
set_option linter.unusedVariables false
set_option maxRecDepth 100000
namespace Go.SX
open Go.RowKit (Below)
inductive Vc (P:Program) (E:Env) (n0:Nat) (rs:List ResultVar) (R:AV→St→Prop):List Item→St→Prop
 | ret {k s vs} (h:CM P s rs=some vs) (hR:R (Gp vs) s):Vc P E n0 rs R (.code .ret::k) s
 | fin {s vs} (h:CM P s rs=some vs) (hR:R (Gp vs) s):Vc P E n0 rs R [] s
 | skip {k s} (h:Vc P E n0 rs R k s):Vc P E n0 rs R (.code .skip::k) s
 | seq {k s x y} (h:Vc P E n0 rs R (.code x::.code y::k) s):Vc P E n0 rs R (.code (.seq x y)::k) s
 | cond {k s c x y} (t:Bool) (hc:ev s.T c=.sc (.bool t)) (h:Vc P E n0 rs R (.code (if t=true then x else y)::k) s):Vc P E n0 rs R (.code (.cond c x y)::k) s
 | block {k s id c} (h:Vc P E n0 rs R (.code c::.inBlock id::k) s):Vc P E n0 rs R (.code (.block id c)::k) s
 | inBlock {k s id} (h:Vc P E n0 rs R k s):Vc P E n0 rs R (.inBlock id::k) s
 | loop {k s c} (h:Go P E n0 rs R (.code (.loop c)::k) s):Vc P E n0 rs R (.code (.loop c)::k) s
 | inLoop {k s c} (h:Go P E n0 rs R (.inLoop c::k) s):Vc P E n0 rs R (.inLoop c::k) s
 | exit {k k' s id} (he:exitTo id k=some k') (h:Vc P E n0 rs R k' s):Vc P E n0 rs R (.code (.exit id)::k) s
 | region {k s s' id ops} (hr:Ff P E ops ops.toList s=some s') (h:Vc P E n0 rs R k s'):Vc P E n0 rs R (.code (.region id ops false)::k) s
 | draw {k s s' id ops} (hpm:E.perm id=none) (hr:Dj P E ops (·=s') ops.toList 0 s [] []) (h:Vc P E n0 rs R k s'):Vc P E n0 rs R (.code (.region id ops true)::k) s
 | drawP {k s s' id ops i π} (hpm:E.perm id=some (i::π)) (hr:Dj P E (BW ops (i::π)) (·=s') (BW ops (i::π)).toList 0 s [] []) (h:Vc P E n0 rs R k s'):Vc P E n0 rs R (.code (.region id ops true)::k) s
 | sem {k s id ops} (hpm:E.perm id=some []) (h:Go P E n0 rs R (.code (.region id ops true)::k) s):Vc P E n0 rs R (.code (.region id ops true)::k) s
section
variable {P:Program} {E:Env} {n0:Nat} {rs:List ResultVar} {R:AV→St→Prop}
theorem Ac {k s} (h:Vc P E n0 rs R k s):Go P E n0 rs R k s:=by
 induction h with
 | ret h hR=>exact .ret h hR
 | fin h hR=>exact .fin h hR
 | skip _ ih=>exact .skip ih
 | seq _ ih=>exact .seq ih
 | cond t hc _ ih=>exact .cond t hc ih
 | block _ ih=>exact .block ih
 | inBlock _ ih=>exact .inBlock ih
 | loop h=>exact h
 | inLoop h=>exact h
 | exit he _ ih=>exact .exit he ih
 | region hr _ ih=>exact .region hr ih
 | @draw k s s' id ops hpm hr _ ih=>
  cases hb:ops.toList.any EP with
  | true=>exact .drawH hpm hb hr ih
  | false=>exact .draw hpm (Ea _ _ _ _ hb hr) ih
 | drawP hpm hr _ ih=>exact .drawP hpm hr ih
 | sem _ h=>exact h
theorem Bd {c k s} (h:Vc P E n0 rs R (.code c::.inLoop c::k) s):Go P E n0 rs R (.code (.loop c)::k) s:=.loop (Ac h)
theorem AD {c k s} (h:Vc P E n0 rs R (.code c::.inLoop c::k) s):Go P E n0 rs R (.inLoop c::k) s:=.inLoop (Ac h)
def VcE (P:Program) (E:Env) (n0:Nat) (rs:List ResultVar) (R:AV→St→Prop) (s:St):Option (List Item)→Prop
 | some k=>Vc P E n0 rs R k s
 | none=>False
def VcC (P:Program) (E:Env) (n0:Nat) (rs:List ResultVar) (R:AV→St→Prop) (x y:Code) (k:List Item) (s:St):AV→Prop
 | .sc (.bool t)=>if t=true then Vc P E n0 rs R (.code x::k) s else Vc P E n0 rs R (.code y::k) s
 | _=>False
def VcO (P:Program) (E:Env) (n0:Nat) (rs:List ResultVar) (R:AV→St→Prop) (all:Array Oper) (r:List Oper) (k:List Item) (s:St):Prop:=
 ∃ s',Ff P E all r s=some s'∧Vc P E n0 rs R k s'
def VcS (P:Program) (E:Env) (n0:Nat) (rs:List ResultVar) (R:AV→St→Prop) (all:Array Oper) (r:List Oper) (k:List Item) (s:Option St):Prop:=
 ∃ s1,s=some s1∧VcO P E n0 rs R all r k s1
def VcR (R:AV→St→Prop) (s:St):Option (List AV)→Prop
 | some vs=>R (Gp vs) s
 | none=>False
variable {k:List Item} {s:St} {id:Nat}
theorem Ako:Vc P E n0 rs R (.code .ret::k) s=VcR R s (CM P s rs):=by
 apply propext; constructor
 ·intro h; cases h with | ret h hR=>rw [h]; exact hR
 ·intro h
  cases hv:CM P s rs with
  | none=>rw [hv] at h; exact h.elim
  | some vs=>rw [hv] at h; exact .ret hv h
theorem Akp:Vc P E n0 rs R [] s=VcR R s (CM P s rs):=by
 apply propext; constructor
 ·intro h; cases h with | fin h hR=>rw [h]; exact hR
 ·intro h
  cases hv:CM P s rs with
  | none=>rw [hv] at h; exact h.elim
  | some vs=>rw [hv] at h; exact .fin hv h
theorem Xd (vs:List AV):VcR R s (some vs)=R (Gp vs) s:=rfl
theorem Ad9:Vc P E n0 rs R (.code .skip::k) s=Vc P E n0 rs R k s:=propext ⟨fun h=>by cases h; assumption,.skip⟩
theorem Akq (x y:Code):Vc P E n0 rs R (.code (.seq x y)::k) s=Vc P E n0 rs R (.code x::.code y::k) s:=propext ⟨fun h=>by cases h; assumption,.seq⟩
theorem Xe (id:Nat) (c:Code):Vc P E n0 rs R (.code (.block id c)::k) s=Vc P E n0 rs R (.code c::.inBlock id::k) s:=propext ⟨fun h=>by cases h; assumption,.block⟩
theorem Q6 (id:Nat):Vc P E n0 rs R (.inBlock id::k) s=Vc P E n0 rs R k s:=propext ⟨fun h=>by cases h; assumption,.inBlock⟩
theorem Ada (c:Code):Vc P E n0 rs R (.code (.loop c)::k) s=Go P E n0 rs R (.code (.loop c)::k) s:=propext ⟨fun h=>by cases h; assumption,.loop⟩
theorem TF (c:Code):Vc P E n0 rs R (.inLoop c::k) s=Go P E n0 rs R (.inLoop c::k) s:=propext ⟨fun h=>by cases h; assumption,.inLoop⟩
theorem Adb (id:Nat):Vc P E n0 rs R (.code (.exit id)::k) s=VcE P E n0 rs R s (exitTo id k):=by
 apply propext; constructor
 ·intro h; cases h with | exit he h=>rw [he]; exact h
 ·intro h
  cases hv:exitTo id k with
  | none=>rw [hv] at h; exact h.elim
  | some k'=>rw [hv] at h; exact .exit hv h
theorem Xf (k:List Item):VcE P E n0 rs R s (some k)=Vc P E n0 rs R k s:=rfl
theorem Q7 (id:Nat) (k:List Item):exitTo id (.inBlock id::k)=some k:=by simp [exitTo]
theorem OM (id:Nat) (c:Code) (k:List Item):exitTo id (.code c::k)=exitTo id k:=rfl
theorem K2 (id:Nat) (c:Code) (k:List Item):exitTo id (.inLoop c::k)=exitTo id k:=rfl
theorem Adc (c:Operand) (x y:Code):Vc P E n0 rs R (.code (.cond c x y)::k) s=VcC P E n0 rs R x y k s (ev s.T c):=by
 apply propext; constructor
 ·intro h
  cases h with
  | cond t hc h=>
   rw [hc]
   cases t
   ·exact h
   ·exact h
 ·intro h
  generalize hv:ev s.T c=v at h
  cases v with
  | sc u=>
   cases u with
   | bool t=>
    refine .cond t hv ?_
    cases t
    ·exact h
    ·exact h
   | _=>exact h.elim
  | _=>exact h.elim
theorem Xg (x y:Code) (t:Bool):VcC P E n0 rs R x y k s (.sc (.bool t))=if t=true then Vc P E n0 rs R (.code x::k) s else Vc P E n0 rs R (.code y::k) s:=rfl
theorem TG (id:Nat) (ops:Array Oper):Vc P E n0 rs R (.code (.region id ops false)::k) s=VcO P E n0 rs R ops ops.toList k s:=by
 apply propext; constructor
 ·intro h; cases h with | region hr h=>exact ⟨_,hr,h⟩
 ·rintro ⟨s',hr,h⟩; exact .region hr h
theorem Ade (hpm:E.perm id=none) (ops:Array Oper):Vc P E n0 rs R (.code (.region id ops true)::k) s=Dj P E ops (Vc P E n0 rs R k) ops.toList 0 s [] []:=by
 apply propext; constructor
 ·intro h
  cases h with
  | draw _ hr h=>exact (Eu _ _ _ _ _).2 ⟨_,hr,h⟩
  | drawP hpm' hr h=>rw [hpm] at hpm'; cases hpm'
  | sem hpm' h=>rw [hpm] at hpm'; cases hpm'
 ·intro h
  obtain ⟨s1,h1,h2⟩:=(Eu _ _ _ _ _).1 h
  exact .draw hpm h1 h2
theorem Adf (all:Array Oper):VcO P E n0 rs R all [] k s=Vc P E n0 rs R k s:=by
 apply propext; constructor
 ·rintro ⟨s',h,h2⟩; simp only [Ff,lx16] at h; subst h; exact h2
 ·intro h; exact ⟨s,rfl,h⟩
theorem TH (all:Array Oper) (o:Oper) (r:List Oper):VcO P E n0 rs R all (o::r) k s=VcS P E n0 rs R all r k (Fb E.lit o (Ag P E all s o) (Ei P s o.op o.dst)):=by
 apply propext; constructor
 ·rintro ⟨s',h,h2⟩
  simp only [Ff] at h
  split at h
  ·rename_i s1 h1; exact ⟨s1,h1,s',h,h2⟩
  ·cases h
 ·rintro ⟨s1,h1,s',h,h2⟩
  have h1':Ej P E all s o=some s1:=h1
  exact ⟨s',by simp only [Ff,h1']; exact h,h2⟩
theorem Xh (hl:E.lit=false) (all:Array Oper) (o:Oper) (r:List Oper):VcO P E n0 rs R all (o::r) k s=VcS P E n0 rs R all r k (Ag P E all s o):=by
 rw [TH,hl]; rfl
theorem TI (hl:E.lit=true) (all:Array Oper) (o:Oper) (r:List Oper):VcO P E n0 rs R all (o::r) k s=VcS P E n0 rs R all r k (Fb true o (Ag P E all s o) (Ei P s o.op o.dst)):=by
 rw [TH,hl]
theorem Ava (d:Option Nat) (op:Op) (ty:TypeId) (pos:String) (af:Array Edge) (g:Nat × Bool) (x y:Option St):Fb true ⟨d,op,ty,pos,af,some g⟩ x y=x:=by simp [Fb]
theorem Avb (d:Option Nat) (t:TypeId) (n:Nat) (ps:Array (Nat × Operand)) (ty:TypeId) (pos:String) (af:Array Edge) (x y:Option St):Fb true ⟨d,.buildSlice t n ps,ty,pos,af,none⟩ x y=y:=by simp [Fb,Cl]
theorem Q8 (P:Program) (s:St) (op:Op) (d:Option Nat):Ei P s op d=Ah6 s d (Aw P s op d):=rfl
theorem TJ (T T':List AV) (H H':List Blk) (c c':Nat) (d:Option Nat) (h:norefs (Cs H')=true):Ah6 ⟨T,H,c⟩ d (some ⟨T',H',c'⟩)=some (St.put ⟨T,H,c+1⟩ d (.vw false (Cs H'))):=by simp [Ah6,h]
theorem Xi (all:Array Oper) (r:List Oper) (s:St):VcS P E n0 rs R all r k (some s)=VcO P E n0 rs R all r k s:=by
 apply propext; constructor
 ·rintro ⟨s1,h,h2⟩; cases h; exact h2
 ·intro h; exact ⟨s,rfl,h⟩
end
theorem Q9 (P:Program) (s:St):CM P s []=some []:=rfl
theorem Ra (P:Program) (s:St) (t:Nat) (r:List ResultVar):CM P s (.tmp t::r)=(CM P s r).map (s.T.getD t .un::·):=rfl
def Bed (v:Option AV) (r:Option (List AV)):Option (List AV):=
 match v with
 | some v=>r.map (v::·)
 | none=>none
theorem ON (P:Program) (s:St) (t ty:Nat) (r:List ResultVar):CM P s (.cell t ty::r)=Bed (Ay P s (.load ty (.tmp t))) (CM P s r):=rfl
theorem TK (v:AV) (r:List AV):Bed (some v) (some r)=some (v::r):=rfl
theorem Rb (v:AV):Gp [v]=v:=rfl
theorem Re (v u:AV) (l:List AV):Gp (v::u::l)=.tu (v::u::l):=rfl
section
variable {P:Program} {E:Env} {all:Array Oper} {s:St} {d:Option Nat} {ty:TypeId} {pos:String} {af:Array Edge}
def gP (s:St) (d:Option Nat) (want:Bool) (v:Option AV):AV→Option St
 | .sc (.bool b)=>(if b=want then v else some .un).map (s.put d)
 | .un=>some (s.put d .un)
 | _=>none
def gH (s:St) (d:Option Nat) (want:Bool) (v:Option St):AV→Option St
 | .sc (.bool b)=>if b=want then v else some (s.put d .un)
 | .un=>some (s.put d .un)
 | _=>none
def oV (s:St) (d:Option Nat) (v:Option AV):Option St:=v.map (s.put d)
theorem Adg (v:AV):oV s d (some v)=some (s.put d v):=rfl
theorem Adh (want:Bool) (v:Option AV) (b:Bool):gP s d want v (.sc (.bool b))=oV s d (if b=want then v else some .un):=rfl
theorem Avc (want:Bool) (v:Option AV):gP s d want v .un=some (s.put d .un):=rfl
theorem Adi (want:Bool) (v:Option St) (b:Bool):gH s d want v (.sc (.bool b))=if b=want then v else some (s.put d .un):=rfl
theorem Akr (want:Bool) (v:Option AV) (c:Prop) [Decidable c] (b:Bool):gP s d want v (if c then .sc (.bool b) else .un)=oV s d (if c∧b=want then v else some .un):=by
 by_cases h:c <;> simp [h,gP,oV]
theorem Xj {α:Type} (c:Prop) [Decidable c] (a b:α):(if c then some a else some b)=some (if c then a else b):=by split <;> rfl
theorem Xk (c:Prop) [Decidable c] (a b:Bool):(if c then AV.sc (.bool a) else AV.sc (.bool b))=AV.sc (.bool (if c then a else b)):=by split <;> rfl
theorem Adj (a b:Bool):(if a=true then b else false)=(a && b):=by cases a <;> rfl
theorem Aks (a b:Bool):(if a=true then true else b)=(a || b):=by cases a <;> rfl
theorem Ct (op:Op) (h1:Bk op=false) (h2:isHeapOp op=false):Ag P E all s ⟨d,op,ty,pos,af,none⟩=oV s d (Ay P s op):=by
 simp [Ag,AQ,h1,h2,Jv,oV]
theorem CV (op:Op) (h1:Bk op=false) (h2:isHeapOp op=false) (j:Nat) (want:Bool):Ag P E all s ⟨d,op,ty,pos,af,some (j,want)⟩=gP s d want (Ay P s op) (Ao all s j):=by
 simp only [Ag,AQ,h1,h2,Jv,gP]
 simp only [DD,lx9,Bool.not_false,lx8]
 generalize Ao all s j=g
 cases g with
 | sc v=>cases v <;> rfl
 | _=>rfl
theorem IK (op:Op) (h1:Bk op=false) (h2:isHeapOp op=true):Ag P E all s ⟨d,op,ty,pos,af,none⟩=Aw P s op d:=by
 simp [Ag,AQ,h1,h2,Fe]
def K3 (E:Env) (s:St) (d:Option Nat) (b:Bool) (g:Nat) (args:List AV):Option St:=
 if b=true then oV s d (E.pcall g (Aj s.H args)) else
  match E.hcall g args s.H s.cnt with
  | some (r,H',cnt')=>some (St.put { s with H:=H',cnt:=cnt' } d r)
  | none=>none
def Akt (E:Env) (s:St) (d:Option Nat) (args:List AV):AV→Option St
 | .fn g caps=>K3 E s d (E.isP g) g (args++caps)
 | _=>none
theorem Xl (args:List AV) (g:Nat) (caps:List AV):Akt E s d args (.fn g caps)=K3 E s d (E.isP g) g (args++caps):=rfl
theorem Adk (g:Nat) (args:List AV):K3 E s d true g args=oV s d (E.pcall g (Aj s.H args)):=by simp [K3]
def Az5 (s:St) (d:Option Nat):Option (AV × List Blk × Nat)→Option St
 | some (r,H',cnt')=>some (St.put { s with H:=H',cnt:=cnt' } d r)
 | none=>none
theorem Adl (g:Nat) (args:List AV):K3 E s d false g args=Az5 s d (E.hcall g args s.H s.cnt):=by
 simp only [K3,Az5,DD,lx9]
theorem TL (T:List AV) (H H':List Blk) (c c':Nat) (r:AV):Az5 ⟨T,H,c⟩ d (some (r,H',c'))=some (St.put ⟨T,H',c'⟩ d r):=rfl
theorem Adm (f:Operand) (args:Array Operand) (ats:Array TypeId):Ag P E all s ⟨d,.call ⟨.value f,args,ats⟩,ty,pos,af,none⟩=Akt E s d (args.toList.map (ev s.T)) (ev s.T f):=by
 simp only [Ag,AQ,Bk,lx8,Jv,Fe,EN]
 generalize ev s.T f=v
 cases v with
 | fn g caps=>
  simp only [Akt,K3,F9]
  cases E.isP g
  ·simp only [DD,lx9]
   generalize E.hcall g (List.map (ev s.T) args.toList++caps) s.H s.cnt=hh
   cases hh with
   | none=>rfl
   | some p=>rfl
  ·rfl
 | _=>rfl
def Rf (E:Env) (s:St) (d:Option Nat) (want:Bool) (args:List AV) (g:AV):AV→Option St
 | .fn f caps=>if E.isP f=true then gP s d want (E.pcall f (Aj s.H (args++caps))) g else gH s d want (K3 E s d false f (args++caps)) g
 | _=>gP s d want none g
theorem TM (want:Bool) (args:List AV) (g:AV) (f:Nat) (caps:List AV):
  Rf E s d want args g (.fn f caps)=if E.isP f=true then gP s d want (E.pcall f (Aj s.H (args++caps))) g else gH s d want (K3 E s d false f (args++caps)) g:=rfl
theorem Xm (f:Operand) (args:Array Operand) (ats:Array TypeId) (j:Nat) (want:Bool):
  Ag P E all s ⟨d,.call ⟨.value f,args,ats⟩,ty,pos,af,some (j,want)⟩=Rf E s d want (args.toList.map (ev s.T)) (Ao all s j) (ev s.T f):=by
 simp only [Ag,AQ,Bk,lx8,Jv,Fe,EN]
 generalize ev s.T f=v
 generalize Ao all s j=g
 cases v with
 | fn h caps=>
  simp only [Rf,K3,F9]
  cases E.isP h
  ·simp only [DD,lx9,gH]
   generalize E.hcall h (List.map (ev s.T) args.toList++caps) s.H s.cnt=hh
   cases g with
   | sc v=>
    cases v with
    | bool b=>cases hh <;> rfl
    | _=>rfl
   | _=>rfl
  ·simp only [lx8,gP]
   cases g with
   | sc v=>cases v <;> rfl
   | _=>rfl
 | _=>
  simp only [Rf,gP]
  cases g with
  | sc v=>cases v <;> rfl
  | _=>rfl
theorem Adn (x:Operand):Ag P E all s ⟨d,.move x,ty,pos,af,none⟩=oV s d (Ay P s (.move x)):=Ct _ rfl rfl
theorem TN (x:Operand) (j:Nat) (want:Bool):Ag P E all s ⟨d,.move x,ty,pos,af,some (j,want)⟩=gP s d want (Ay P s (.move x)) (Ao all s j):=CV _ rfl rfl j want
theorem TO (x:Operand):Ag P E all s ⟨d,.assign x,ty,pos,af,none⟩=oV s d (Ay P s (.assign x)):=Ct _ rfl rfl
theorem Ado (c a b:Operand):Ag P E all s ⟨d,.pick c a b,ty,pos,af,none⟩=oV s d (Ay P s (.pick c a b)):=Ct _ rfl rfl
theorem TP (c a b:Operand) (j:Nat) (want:Bool):Ag P E all s ⟨d,.pick c a b,ty,pos,af,some (j,want)⟩=gP s d want (Ay P s (.pick c a b)) (Ao all s j):=CV _ rfl rfl j want
theorem Adp (t:TypeId) (x:Operand):Ag P E all s ⟨d,.load t x,ty,pos,af,none⟩=oV s d (Ay P s (.load t x)):=Ct _ rfl rfl
theorem TQ (t:TypeId) (x:Operand) (j:Nat) (want:Bool):Ag P E all s ⟨d,.load t x,ty,pos,af,some (j,want)⟩=gP s d want (Ay P s (.load t x)) (Ao all s j):=CV _ rfl rfl j want
theorem OO (x:Operand):Ag P E all s ⟨d,.nilCheck x,ty,pos,af,none⟩=oV s d (Ay P s (.nilCheck x)):=Ct _ rfl rfl
theorem K4 (x:Operand) (j:Nat) (want:Bool):Ag P E all s ⟨d,.nilCheck x,ty,pos,af,some (j,want)⟩=gP s d want (Ay P s (.nilCheck x)) (Ao all s j):=CV _ rfl rfl j want
theorem Xn (op:BinOp) (t:TypeId) (x y:Operand) (t':TypeId):Ag P E all s ⟨d,.binOp op t x y t',ty,pos,af,none⟩=oV s d (Ay P s (.binOp op t x y t')):=Ct _ rfl rfl
theorem Rg (op:BinOp) (t:TypeId) (x y:Operand) (t':TypeId) (j:Nat) (want:Bool):Ag P E all s ⟨d,.binOp op t x y t',ty,pos,af,some (j,want)⟩=gP s d want (Ay P s (.binOp op t x y t')) (Ao all s j):=CV _ rfl rfl j want
theorem Adq (op:UnOp) (t:TypeId) (x:Operand):Ag P E all s ⟨d,.unOp op t x,ty,pos,af,none⟩=oV s d (Ay P s (.unOp op t x)):=Ct _ rfl rfl
theorem TR (op:UnOp) (t:TypeId) (x:Operand) (j:Nat) (want:Bool):Ag P E all s ⟨d,.unOp op t x,ty,pos,af,some (j,want)⟩=gP s d want (Ay P s (.unOp op t x)) (Ao all s j):=CV _ rfl rfl j want
theorem Rh (t t':TypeId) (x:Operand):Ag P E all s ⟨d,.convert t t' x,ty,pos,af,none⟩=oV s d (Ay P s (.convert t t' x)):=Ct _ rfl rfl
theorem Mi (t t':TypeId) (x:Operand) (j:Nat) (want:Bool):Ag P E all s ⟨d,.convert t t' x,ty,pos,af,some (j,want)⟩=gP s d want (Ay P s (.convert t t' x)) (Ao all s j):=CV _ rfl rfl j want
theorem OP (f:Fn) (a b:Array Operand):Ag P E all s ⟨d,.makeFunc f a b,ty,pos,af,none⟩=oV s d (Ay P s (.makeFunc f a b)):=Ct _ rfl rfl
theorem K5 (f:Fn) (a b:Array Operand) (j:Nat) (want:Bool):Ag P E all s ⟨d,.makeFunc f a b,ty,pos,af,some (j,want)⟩=gP s d want (Ay P s (.makeFunc f a b)) (Ao all s j):=CV _ rfl rfl j want
theorem Xo (t:TypeId) (x:Operand) (a b c:Option Operand):Ag P E all s ⟨d,.slice t x a b c,ty,pos,af,none⟩=oV s d (Ay P s (.slice t x a b c)):=Ct _ rfl rfl
theorem Ri (t:TypeId) (x:Operand) (a b c:Option Operand) (j:Nat) (want:Bool):Ag P E all s ⟨d,.slice t x a b c,ty,pos,af,some (j,want)⟩=gP s d want (Ay P s (.slice t x a b c)) (Ao all s j):=CV _ rfl rfl j want
theorem Mj (t:TypeId) (x:Operand) (f:Nat):Ag P E all s ⟨d,.fieldAddr t x f,ty,pos,af,none⟩=oV s d (Ay P s (.fieldAddr t x f)):=Ct _ rfl rfl
theorem JM (t:TypeId) (x:Operand) (f:Nat) (j:Nat) (want:Bool):Ag P E all s ⟨d,.fieldAddr t x f,ty,pos,af,some (j,want)⟩=gP s d want (Ay P s (.fieldAddr t x f)) (Ao all s j):=CV _ rfl rfl j want
theorem Xp (t:TypeId) (x:Operand) (f:Nat):Ag P E all s ⟨d,.field t x f,ty,pos,af,none⟩=oV s d (Ay P s (.field t x f)):=Ct _ rfl rfl
theorem Rj (t:TypeId) (x:Operand) (f:Nat) (j:Nat) (want:Bool):Ag P E all s ⟨d,.field t x f,ty,pos,af,some (j,want)⟩=gP s d want (Ay P s (.field t x f)) (Ao all s j):=CV _ rfl rfl j want
theorem Ml (t:TypeId) (x y:Operand):Ag P E all s ⟨d,.indexAddr t x y,ty,pos,af,none⟩=oV s d (Ay P s (.indexAddr t x y)):=Ct _ rfl rfl
theorem JN (t:TypeId) (x y:Operand) (j:Nat) (want:Bool):Ag P E all s ⟨d,.indexAddr t x y,ty,pos,af,some (j,want)⟩=gP s d want (Ay P s (.indexAddr t x y)) (Ao all s j):=CV _ rfl rfl j want
theorem Xq (t:TypeId) (x y:Operand):Ag P E all s ⟨d,.index t x y,ty,pos,af,none⟩=oV s d (Ay P s (.index t x y)):=Ct _ rfl rfl
theorem Rk (t:TypeId) (x y:Operand) (j:Nat) (want:Bool):Ag P E all s ⟨d,.index t x y,ty,pos,af,some (j,want)⟩=gP s d want (Ay P s (.index t x y)) (Ao all s j):=CV _ rfl rfl j want
theorem Rl (x:Operand) (i:Nat):Ag P E all s ⟨d,.extract x i,ty,pos,af,none⟩=oV s d (Ay P s (.extract x i)):=Ct _ rfl rfl
theorem Xr (t:TypeId) (ps:Array (Nat × Operand)):Ag P E all s ⟨d,.build t ps,ty,pos,af,none⟩=oV s d (Ay P s (.build t ps)):=Ct _ rfl rfl
theorem Aku (a:Array Operand) (b:Array TypeId):Ag P E all s ⟨d,.call ⟨.builtin .len,a,b⟩,ty,pos,af,none⟩=oV s d (Ay P s (.call ⟨.builtin .len,a,b⟩)):=Ct _ rfl rfl
theorem Xs (a:Array Operand) (b:Array TypeId) (j:Nat) (want:Bool):Ag P E all s ⟨d,.call ⟨.builtin .len,a,b⟩,ty,pos,af,some (j,want)⟩=gP s d want (Ay P s (.call ⟨.builtin .len,a,b⟩)) (Ao all s j):=CV _ rfl rfl j want
theorem Akv (a:Array Operand) (b:Array TypeId):Ag P E all s ⟨d,.call ⟨.builtin .min,a,b⟩,ty,pos,af,none⟩=oV s d (Ay P s (.call ⟨.builtin .min,a,b⟩)):=Ct _ rfl rfl
theorem Akw (a:Array Operand) (b:Array TypeId):Ag P E all s ⟨d,.call ⟨.builtin .max,a,b⟩,ty,pos,af,none⟩=oV s d (Ay P s (.call ⟨.builtin .max,a,b⟩)):=Ct _ rfl rfl
theorem Xt (t:TypeId):Ag P E all s ⟨d,.alloc t,ty,pos,af,none⟩=Aw P s (.alloc t) d:=IK _ rfl rfl
theorem Akx (t:TypeId) (x:Operand):Ag P E all s ⟨d,.box t x,ty,pos,af,none⟩=Aw P s (.box t x) d:=IK _ rfl rfl
theorem K6 (t:TypeId) (n:Nat) (ps:Array (Nat × Operand)):Ag P E all s ⟨d,.buildSlice t n ps,ty,pos,af,none⟩=Aw P s (.buildSlice t n ps) d:=IK _ rfl rfl
theorem Xu (t:TypeId) (x y:Operand):Ag P E all s ⟨d,.store t x y,ty,pos,af,none⟩=Aw P s (.store t x y) d:=IK _ rfl rfl
theorem Mm (t:TypeId) (x y:Operand):Ag P E all s ⟨d,.makeSlice t x y,ty,pos,af,none⟩=Aw P s (.makeSlice t x y) d:=IK _ rfl rfl
theorem TS (a:Array Operand) (b:Array TypeId):Ag P E all s ⟨d,.call ⟨.builtin .append,a,b⟩,ty,pos,af,none⟩=Aw P s (.call ⟨.builtin .append,a,b⟩) d:=IK _ rfl rfl
theorem Xv (a:Array Operand) (b:Array TypeId):Ag P E all s ⟨d,.call ⟨.builtin .clear,a,b⟩,ty,pos,af,none⟩=Aw P s (.call ⟨.builtin .clear,a,b⟩) d:=IK _ rfl rfl
theorem Aky (T:List AV) (t:Nat):ev T (.tmp t)=T.getD t .un:=rfl
theorem Adr (T:List AV) (f:Nat):ev T (.func f)=.fn f []:=rfl
theorem Akz (T:List AV) (k:IntKind) (n:Int):ev T (.const (.int k n))=.sc (.int k n):=rfl
theorem Ads (T:List AV) (b:Bool):ev T (.const (.bool b))=.sc (.bool b):=rfl
theorem Al0 (T:List AV) (b:ByteArray):ev T (.const (.string b))=.sc (.string b):=rfl
theorem Al1 (T:List AV):ev T (.const (.slice none 0 0))=.vw true []:=rfl
theorem TU (x:Operand):Ay P s (.move x)=some (ev s.T x):=rfl
theorem OQ (x:Operand):Ay P s (.assign x)=some (ev s.T x):=rfl
def Al2 (a b:AV):AV→Option AV
 | .sc (.bool t)=>some (if t=true then a else b)
 | _=>none
theorem TV (c a b:Operand):Ay P s (.pick c a b)=Al2 (ev s.T a) (ev s.T b) (ev s.T c):=by
 simp only [Ay,Al2]
 generalize ev s.T c=v
 cases v with
 | sc v=>cases v <;> rfl
 | _=>rfl
theorem Rm (a b:AV) (t:Bool):Al2 a b (.sc (.bool t))=some (if t=true then a else b):=rfl
def ldE (d:TyD) (off:Nat):Option AV→Option AV
 | some e=>DZ d e.cells off
 | none=>none
def ldB (d:TyD) (i off:Nat):Option Blk→Option AV
 | some B=>ldE d off B.els[i]?
 | none=>none
def ldV (d:TyD) (off:Nat):Option AV→Option AV
 | some e=>match DZ d e.cells off with
  | some v=>if v.noref=true then some v else none
  | none=>none
 | none=>none
def Adt (H:List Blk):Option TyD→AV→Option AV
 | some d,.pt id ver i off=>ldB d i off (AJ H id ver)
 | some d,.vp es i off=>ldV d off es[i]?
 | _,_=>none
theorem TW (t:TypeId) (x:Operand):Ay P s (.load t x)=Adt s.H (AR P t) (ev s.T x):=by
 simp only [Ay,Adt,ldB,ldE,ldV]
 generalize ev s.T x=v
 generalize AR P t=d
 cases d with
 | none=>rfl
 | some d=>cases v <;> rfl
theorem Xw (H:List Blk) (d:TyD) (id ver i off:Nat):Adt H (some d) (.pt id ver i off)=ldB d i off (AJ H id ver):=rfl
theorem Xx (H:List Blk) (d:TyD) (es:List AV) (i off:Nat):Adt H (some d) (.vp es i off)=ldV d off es[i]?:=rfl
theorem Xy (d:TyD) (i off:Nat) (B:Blk):ldB d i off (some B)=ldE d off B.els[i]?:=rfl
theorem Xz (d:TyD) (off:Nat) (e:AV):ldE d off (some e)=DZ d e.cells off:=rfl
def ldW:Option AV→Option AV
 | some v=>if v.noref=true then some v else none
 | none=>none
theorem XA (d:TyD) (off:Nat) (e:AV):ldV d off (some e)=ldW (DZ d e.cells off):=rfl
theorem XB (v:AV):ldW (some v)=if v.noref=true then some v else none:=rfl
theorem TX (sz bytes:Nat) (zero el len fl) (cs:List AV) (off:Nat):DZ ⟨true,sz,bytes,zero,el,len,fl⟩ cs off=if off+sz≤cs.length then some (.ag ((cs.drop off).take sz)) else none:=rfl
theorem TY (sz bytes:Nat) (zero el len fl) (cs:List AV) (off:Nat):DZ ⟨false,sz,bytes,zero,el,len,fl⟩ cs off=cs[off]?:=rfl
theorem XC (cs:List AV):AV.cells (.ag cs)=cs:=rfl
theorem XD (v:Value):AV.cells (.sc v)=[.sc v]:=rfl
theorem XE (z:Bool) (es:List AV):AV.cells (.vw z es)=[.vw z es]:=rfl
theorem XF (a b c d:Nat):AV.cells (.sl a b c d)=[.sl a b c d]:=rfl
theorem Al3 (v:Value):AV.noref (.sc v)=true:=by simp [AV.noref]
theorem Al4 (cs:List AV):AV.noref (.ag cs)=norefs cs:=by simp [AV.noref]
theorem Ro (z:Bool) (es:List AV):AV.noref (.vw z es)=true:=by simp [AV.noref]
theorem Aay:norefs []=true:=by simp [norefs]
theorem JO (a:AV) (r:List AV):norefs (a::r)=(a.noref && norefs r):=by simp [norefs]
def Da (P:Program) (op:BinOp) (t:TypeId) (x y:Operand) (u v:AV):Option AV:=
 match Bp u,Bp v with
 | some a,some b=>match Bh P (do eqGuard op t x y a b; binOp op t a b) with
  | some v=>some (LX v)
  | none=>none
 | _,_=>Ah5 P op t u y
theorem IL (op:BinOp) (t t':TypeId) (x y:Operand):Ay P s (.binOp op t x y t')=Da P op t x y (L6 s.H (ev s.T x)) (ev s.T y):=rfl
theorem Adu (H:List Blk) (v:Value):L6 H (.sc v)=.sc v:=rfl
theorem Adv (H:List Blk) (l:List AV):L6 H (.ag l)=.ag l:=rfl
theorem Adw (H:List Blk) (z:Bool) (l:List AV):L6 H (.vw z l)=.vw z l:=rfl
theorem OR (t:TypeId) (x:Operand) (u:AV):Da P .eql t x (.const (.slice none 0 0)) u (.vw true [])=WS .eql (QK P t) (JH u):=by
 unfold Da
 cases Bp u <;> rfl
theorem XG (b:Bool):WS .eql true (some b)=some (.sc (.bool b)):=rfl
theorem XH (z:Bool) (e:AV) (l:List AV):JH (.vw z (e::l))=some false:=rfl
theorem XI (l c:Nat):JH (.sc (.slice none l c))=some true:=rfl
theorem XJ (a:Addr) (l c:Nat):JH (.sc (.slice (some a) l c))=some false:=rfl
theorem Ahl {op:BinOp} {t:TypeId} {x y:Operand} {k k':IntKind} {a b:Int} {v:Value} (h:rd P (binOp op t (.int k a) (.int k' b)) default=some v):
  Bh P (do eqGuard op t x y (.int k a) (.int k' b); binOp op t (.int k a) (.int k' b))=some v:=by
 unfold Bh
 rw [Ah]
 have:rd P (eqGuard op t x y (.int k a) (.int k' b)) default=some ():=by
  unfold eqGuard
  split <;> rfl
 rw [this]
 exact h
section
variable (t:TypeId) (x y:Operand) (k:IntKind) (a b:Int)
theorem D1 {op:BinOp} {k k':IntKind} {v:Value} (h:rd P (binOp op t (.int k a) (.int k' b)) default=some v):Da P op t x y (.sc (.int k a)) (.sc (.int k' b))=some (LX v):=by
 simp only [Da,Bp,Ahl h]
theorem Vl:Da P .add t x y (.sc (.int k a)) (.sc (.int k b))=some (.sc (.int k (k.wrap (a+b)))):=D1 _ _ _ _ _ (v:=.int k (k.wrap (a+b))) (by simp [binOp,Op.intArith,Al])
theorem Vm:Da P .sub t x y (.sc (.int k a)) (.sc (.int k b))=some (.sc (.int k (k.wrap (a - b)))):=D1 _ _ _ _ _ (v:=.int k (k.wrap (a - b))) (by simp [binOp,Op.intArith,Al])
theorem Adx:Da P .mul t x y (.sc (.int k a)) (.sc (.int k b))=some (.sc (.int k (k.wrap (a * b)))):=D1 _ _ _ _ _ (v:=.int k (k.wrap (a * b))) (by simp [binOp,Op.intArith,Al])
theorem Vo:Da P .eql t x y (.sc (.int k a)) (.sc (.int k b))=some (.sc (.bool (a == b))):=D1 _ _ _ _ _ (v:=.bool (a == b)) (by simp [binOp,Op.intCmp,Al])
theorem Vp:Da P .neq t x y (.sc (.int k a)) (.sc (.int k b))=some (.sc (.bool (a != b))):=D1 _ _ _ _ _ (v:=.bool (a != b)) (by simp [binOp,Op.intCmp,Al])
theorem Vq:Da P .lss t x y (.sc (.int k a)) (.sc (.int k b))=some (.sc (.bool (decide (a < b)))):=D1 _ _ _ _ _ (v:=.bool (decide (a < b))) (by simp [binOp,Op.intCmp,Al])
theorem Vr:Da P .leq t x y (.sc (.int k a)) (.sc (.int k b))=some (.sc (.bool (decide (a≤b)))):=D1 _ _ _ _ _ (v:=.bool (decide (a≤b))) (by simp [binOp,Op.intCmp,Al])
theorem Vs:Da P .gtr t x y (.sc (.int k a)) (.sc (.int k b))=some (.sc (.bool (decide (b < a)))):=D1 _ _ _ _ _ (v:=.bool (decide (b < a))) (by simp [binOp,Op.intCmp,Al])
theorem Vt:Da P .geq t x y (.sc (.int k a)) (.sc (.int k b))=some (.sc (.bool (decide (b≤a)))):=D1 _ _ _ _ _ (v:=.bool (decide (b≤a))) (by simp [binOp,Op.intCmp,Al])
theorem Ady (h:b≠0):Da P .quo t x y (.sc (.int k a)) (.sc (.int k b))=some (.sc (.int k (k.wrap (a.tdiv b)))):=D1 _ _ _ _ _ (v:=.int k (k.wrap (a.tdiv b))) (by simp [binOp,Op.intDiv,Al,h])
theorem Adz (h:b≠0):Da P .rem t x y (.sc (.int k a)) (.sc (.int k b))=some (.sc (.int k (a.tmod b))):=D1 _ _ _ _ _ (v:=.int k (a.tmod b)) (by simp [binOp,Op.intDiv,Al,h])
def D2 (op:BinOp) (k:IntKind) (a b:Int):Int:=
 let x:=BitVec.ofInt k.bits a
 let y:=BitVec.ofInt k.bits b
 k.wrap ((match op with | .and=>x &&& y | .or=>x ||| y | .xor=>x ^^^ y | _=>x &&& ~~~y).toNat)
theorem Ae0:Da P .and t x y (.sc (.int k a)) (.sc (.int k b))=some (.sc (.int k (D2 .and k a b))):=D1 _ _ _ _ _ (v:=.int k (D2 .and k a b)) (by simp [binOp,Op.intBits,Al,D2])
theorem Al5:Da P .or t x y (.sc (.int k a)) (.sc (.int k b))=some (.sc (.int k (D2 .or k a b))):=D1 _ _ _ _ _ (v:=.int k (D2 .or k a b)) (by simp [binOp,Op.intBits,Al,D2])
theorem Rp:Da P .andNot t x y (.sc (.int k a)) (.sc (.int k b))=some (.sc (.int k (D2 .andNot k a b))):=D1 _ _ _ _ _ (v:=.int k (D2 .andNot k a b)) (by simp [binOp,Op.intBits,Al,D2])
def Vu (k:IntKind) (a b:Int):Int:=k.wrap (a * 2 ^ (min b.toNat k.bits))
def GD (k:IntKind) (a b:Int):Int:=a.fdiv (2 ^ (min b.toNat k.bits))
theorem Ae1 (k':IntKind) (h:0≤b):Da P .shl t x y (.sc (.int k a)) (.sc (.int k' b))=some (.sc (.int k (Vu k a b))):=D1 _ _ _ _ _ (v:=.int k (Vu k a b)) (by
 have h':¬ b < 0:=An
 simp [binOp,Op.shift,Al,Vu,h'])
theorem Ae2 (k':IntKind) (h:0≤b):Da P .shr t x y (.sc (.int k a)) (.sc (.int k' b))=some (.sc (.int k (GD k a b))):=D1 _ _ _ _ _ (v:=.int k (GD k a b)) (by
 have h':¬ b < 0:=An
 simp [binOp,Op.shift,Al,GD,h'])
end
def unA (P:Program) (op:UnOp) (u:AV):Option AV:=
 match Bp u with
 | some a=>match Bh P (Op.unary op a) with
  | some v=>some (LX v)
  | none=>none
 | none=>none
theorem TZ (op:UnOp) (t:TypeId) (x:Operand):Ay P s (.unOp op t x)=unA P op (ev s.T x):=rfl
theorem Al6 (b:Bool):unA P .not (.sc (.bool b))=some (.sc (.bool (!b))):=rfl
theorem Al7 (k:IntKind) (n:Int):unA P .neg (.sc (.int k n))=some (.sc (.int k (k.wrap (0 - n)))):=rfl
def cvA (P:Program) (src dst:TypeId) (u:AV):Option AV:=
 match Bp u with
 | some a=>match Bh P (convert src dst a) with
  | some v=>some (LX v)
  | none=>none
 | none=>none
theorem S8 (src dst:TypeId) (x:Operand):Ay P s (.convert src dst x)=cvA P src dst (ev s.T x):=rfl
theorem Az6 {src dst:TypeId} {ks kd:IntKind} (h1:P.underlying src=some (.int ks)) (h2:P.underlying dst=some (.int kd)) (k:IntKind) (n:Int):
  cvA P src dst (.sc (.int k n))=some (.sc (.int kd (kd.wrap n))):=by
 have:Bh P (convert src dst (.int k n))=some (.int kd (kd.wrap n)):=by
  unfold Bh convert
  simp only [Ah,Ar,h1,h2,lx17]
  rfl
 simp only [cvA,Bp,this]; rfl
def cvX (P:Program) (src dst:TypeId) (u:AV):Option TypeDesc→Option TypeDesc→Option AV
 | some (.int _),some (.int kd)=>match u with
  | .sc (.int _ n)=>some (.sc (.int kd (kd.wrap n)))
  | _=>cvA P src dst u
 | _,_=>cvA P src dst u
theorem ER (src dst:TypeId) (x:Operand):Ay P s (.convert src dst x)=cvX P src dst (ev s.T x) (P.underlying src) (P.underlying dst):=by
 rw [S8]
 generalize ev s.T x=u
 unfold cvX
 split
 ·rename_i h1 h2
  split
  ·exact Az6 h1 h2 _ _
  ·rfl
 ·rfl
theorem Pv (src dst:TypeId) (ks kd k:IntKind) (n:Int):cvX P src dst (.sc (.int k n)) (some (.int ks)) (some (.int kd))=some (.sc (.int kd (kd.wrap n))):=rfl
def faA (H:List Blk) (off:Nat):AV→Option AV
 | .pt id ver i o=>match AJ H id ver with
  | some _=>some (.pt id ver i (o+off))
  | none=>none
 | .vp es i o=>some (.vp es i (o+off))
 | _=>none
def faD (P:Program) (H:List Blk) (v:AV):Option (Nat × Nat)→Option AV
 | some (off,ft)=>match AR P ft with
  | some df=>if df.sz=0 then none else faA H off v
  | none=>none
 | none=>none
def faT (P:Program) (H:List Blk) (f:Nat) (v:AV):Option TyD→Option AV
 | some d=>faD P H v d.flds[f]?
 | none=>none
theorem JP (t:TypeId) (x:Operand) (f:Nat):Ay P s (.fieldAddr t x f)=faT P s.H f (ev s.T x) (AR P t):=by
 simp only [Ay,faT,faD,faA]
 cases AR P t with
 | none=>rfl
 | some d=>
  simp only
  cases d.flds[f]? with
  | none=>rfl
  | some p=>
   obtain ⟨off,ft⟩:=p
   simp only
   cases AR P ft with
   | none=>rfl
   | some df=>
    simp only
    split
    ·rfl
    ·cases ev s.T x <;> rfl
theorem XK (H:List Blk) (f:Nat) (v:AV) (d:TyD):faT P H f v (some d)=faD P H v d.flds[f]?:=rfl
def faS (H:List Blk) (off:Nat) (v:AV):Option TyD→Option AV
 | some df=>if df.sz=0 then none else faA H off v
 | none=>none
theorem XL (H:List Blk) (v:AV) (off ft:Nat):faD P H v (some (off,ft))=faS H off v (AR P ft):=rfl
theorem XM (H:List Blk) (off:Nat) (v:AV) (d:TyD):faS H off v (some d)=if d.sz=0 then none else faA H off v:=rfl
def faL (o:Option Blk) (v:AV):Option AV:=match o with | some _=>some v | none=>none
theorem Al8 (H:List Blk) (off id ver i o:Nat):faA H off (.pt id ver i o)=faL (AJ H id ver) (.pt id ver i (o+off)):=rfl
theorem Al9 (H:List Blk) (off i o:Nat) (es:List AV):faA H off (.vp es i o)=some (.vp es i (o+off)):=rfl
theorem XN (B:Blk) (v:AV):faL (some B) v=some v:=rfl
theorem K7 (x:Operand):Ay P s (.nilCheck x)=(match ev s.T x with
  | .pt id ver i off=>faL (AJ s.H id ver) (.pt id ver i off)
  | .vp es i off=>some (.vp es i off)
  | .fn f cs=>some (.fn f cs)
  | _=>none):=rfl
theorem Mn (x:Operand) (i:Nat):Ay P s (.extract x i)=(match ev s.T x with | .tu vs=>vs[i]? | _=>none):=rfl
end
section
variable {E:Env} {s:St}
theorem Ae3 {κ:Nat→Bool} (x:Operand):BY κ (.move x)=false:=rfl
theorem T1 {κ:Nat→Bool} (x:Operand):BY κ (.assign x)=false:=rfl
theorem Ae4 {κ:Nat→Bool} (a b c:Operand):BY κ (.pick a b c)=false:=rfl
theorem XO {κ:Nat→Bool} (op:BinOp) (t:TypeId) (x y:Operand) (t':TypeId):BY κ (.binOp op t x y t')=false:=rfl
theorem Ae5 {κ:Nat→Bool} (op:UnOp) (t:TypeId) (x:Operand):BY κ (.unOp op t x)=false:=rfl
theorem Rq {κ:Nat→Bool} (a b:TypeId) (x:Operand):BY κ (.convert a b x)=false:=rfl
theorem Rr {κ:Nat→Bool} (x:Operand) (i:Nat):BY κ (.extract x i)=false:=rfl
theorem XP {κ:Nat→Bool} (t:TypeId) (ps:Array (Nat × Operand)):BY κ (.build t ps)=false:=rfl
theorem Ae6 {κ:Nat→Bool} (t:TypeId) (x:Operand):BY κ (.load t x)=false:=rfl
theorem OS {κ:Nat→Bool} (x:Operand):BY κ (.nilCheck x)=false:=rfl
theorem Mp {κ:Nat→Bool} (t:TypeId) (x:Operand) (f:Nat):BY κ (.fieldAddr t x f)=false:=rfl
theorem Mq {κ:Nat→Bool} (t:TypeId) (x y:Operand):BY κ (.indexAddr t x y)=false:=rfl
theorem XQ {κ:Nat→Bool} (t:TypeId) (x:Operand) (a b c:Option Operand):BY κ (.slice t x a b c)=false:=rfl
theorem XR {κ:Nat→Bool} (g:Nat) (a:Array Operand) (b:Array TypeId):BY κ (.call ⟨.value (.func g),a,b⟩)=κ g:=rfl
theorem XS {κ:Nat→Bool} (t:Nat) (a:Array Operand) (b:Array TypeId):BY κ (.call ⟨.value (.tmp t),a,b⟩)=false:=rfl
theorem Ala {κ:Nat→Bool} (a:Array Operand) (b:Array TypeId):BY κ (.call ⟨.builtin .len,a,b⟩)=false:=rfl
theorem Alb {κ:Nat→Bool} (a:Array Operand) (b:Array TypeId):BY κ (.call ⟨.builtin .min,a,b⟩)=false:=rfl
theorem Alc {κ:Nat→Bool} (a:Array Operand) (b:Array TypeId):BY κ (.call ⟨.builtin .max,a,b⟩)=false:=rfl
theorem Ald {κ:Nat→Bool} (t:TypeId) (x:Operand):BY κ (.box t x)=true:=rfl
theorem XT {κ:Nat→Bool} (t:TypeId):BY κ (.alloc t)=true:=rfl
theorem XU {κ:Nat→Bool} (t:TypeId) (x y:Operand):BY κ (.store t x y)=true:=rfl
theorem K8 {κ:Nat→Bool} (t:TypeId) (n:Nat) (ps:Array (Nat × Operand)):BY κ (.buildSlice t n ps)=true:=rfl
theorem Mr {κ:Nat→Bool} (t:TypeId) (x y:Operand):BY κ (.makeSlice t x y)=true:=rfl
theorem T2 {κ:Nat→Bool} (a:Array Operand) (b:Array TypeId):BY κ (.call ⟨.builtin .append,a,b⟩)=true:=rfl
theorem Ae7 (x:Operand):AE (.move x)=true:=rfl
theorem T3 (x:Operand):AE (.assign x)=true:=rfl
theorem Ae8 (a b c:Operand):AE (.pick a b c)=true:=rfl
theorem XV (op:BinOp) (t:TypeId) (x y:Operand) (t':TypeId):AE (.binOp op t x y t')=!Ahi y:=rfl
theorem XW (x:Nat):Ahi (.tmp x)=false:=rfl
theorem XX (k:IntKind) (n:Int):Ahi (.const (.int k n))=false:=rfl
theorem XY (b:ByteArray):Ahi (.const (.string b))=false:=rfl
theorem Ae9 (op:UnOp) (t:TypeId) (x:Operand):AE (.unOp op t x)=true:=rfl
theorem Rt (a b:TypeId) (x:Operand):AE (.convert a b x)=true:=rfl
theorem Rv (x:Operand) (i:Nat):AE (.extract x i)=true:=rfl
theorem XZ (t:TypeId) (ps:Array (Nat × Operand)):AE (.build t ps)=true:=rfl
theorem Aea (t:TypeId) (x:Operand):AE (.load t x)=false:=rfl
theorem OT (x:Operand):AE (.nilCheck x)=false:=rfl
theorem Mt (t:TypeId) (x:Operand) (f:Nat):AE (.fieldAddr t x f)=false:=rfl
theorem Mu (t:TypeId) (x y:Operand):AE (.indexAddr t x y)=false:=rfl
theorem X3 (t:TypeId) (x:Operand) (a b c:Option Operand):AE (.slice t x a b c)=false:=rfl
theorem Aeb (f:Operand) (a:Array Operand) (b:Array TypeId):AE (.call ⟨.value f,a,b⟩)=false:=rfl
theorem Ale (a:Array Operand) (b:Array TypeId):AE (.call ⟨.builtin .len,a,b⟩)=false:=rfl
theorem Alf (a:Array Operand) (b:Array TypeId):AE (.call ⟨.builtin .min,a,b⟩)=true:=rfl
theorem Alg (a:Array Operand) (b:Array TypeId):AE (.call ⟨.builtin .max,a,b⟩)=true:=rfl
theorem Alh (t:TypeId) (x:Operand):AE (.box t x)=false:=rfl
theorem X4 (t:TypeId):AE (.alloc t)=false:=rfl
theorem X5 (t:TypeId) (x y:Operand):AE (.store t x y)=false:=rfl
theorem K9 (t:TypeId) (n:Nat) (ps:Array (Nat × Operand)):AE (.buildSlice t n ps)=false:=rfl
theorem Mv (t:TypeId) (x y:Operand):AE (.makeSlice t x y)=false:=rfl
theorem T4 (a:Array Operand) (b:Array TypeId):AE (.call ⟨.builtin .append,a,b⟩)=false:=rfl
end
def Ds:List (Nat × (List AV→Option AV))→Nat→Bool
 | [],_=>false
 | (g,_)::r,f=>if f=g then true else Ds r f
def pl:List (Nat × (List AV→Option AV))→Nat→List AV→Option AV
 | [],_,_=>none
 | (g,F)::r,f,a=>if f=g then F a else pl r f a
def Aaz (l:List (Nat × (List AV→Option AV))):Env:=⟨Ds l,pl l,fun _ _ _ _=>none,false,fun _=>none,fun _=>false⟩
theorem X6 (l:List (Nat × (List AV→Option AV))):(Aaz l).lit=false:=rfl
theorem T5 (l:List (Nat × (List AV→Option AV))) (i:Nat):(Aaz l).perm i=none:=rfl
theorem X7 (l:List (Nat × (List AV→Option AV))) (f:Nat):(Aaz l).isP f=Ds l f:=rfl
theorem Rw (l:List (Nat × (List AV→Option AV))) (f:Nat) (a:List AV):(Aaz l).pcall f a=pl l f a:=rfl
def DC (P:Program) (g:Nat) (F:List AV→Option AV):Prop:=∀ args r,F args=some r→Ap P g args r
inductive POks (P:Program):List (Nat × (List AV→Option AV))→Prop
 | nil:POks P []
 | cons {g F r} (h:DC P g F) (t:POks P r):POks P ((g,F)::r)
theorem Kt {P:Program} {l:List (Nat × (List AV→Option AV))} (h:POks P l):EnvOk P (Aaz l) where
 p f args r he:=by
  simp only [Aaz] at he
  induction h with
  | nil=>simp [pl] at he
  | @cons g F l h t ih=>
   simp only [pl] at he
   split at he
   ·rename_i hh; subst hh; exact h args r he
   ·exact ih he
 h f args H cnt r H' cnt' he:=by simp [Aaz] at he
theorem Ali {c p q:Prop} [Decidable c] (h:c→p) (h':¬ c→q):if c then p else q:=by split <;> simp_all
end Go.SX
