/-
  Lemmas towards ModesSteps (joined texts: SXB, SXC).
  Conditions: none.
-/
import Derived.Test.YtdjpkhjaibdogaaGreatL01
import Derived.Test.YtdjpkhjaibdogaaGreatL10
set_option linter.unusedSimpArgs false
set_option linter.unusedVariables false
set_option maxRecDepth 100000
namespace Go.SX
open Go.RowKit (Below)
inductive Vc (P:Program) (E:Env) (n0:Nat) (rs:List ResultVar) (R:AV→St→Prop):List Item→St→Prop
 | ret {k s vs} (h:C8 P s rs=some vs) (hR:R (Hj vs) s):Vc P E n0 rs R (.code .ret::k) s
 | fin {s vs} (h:C8 P s rs=some vs) (hR:R (Hj vs) s):Vc P E n0 rs R [] s
 | skip {k s} (h:Vc P E n0 rs R k s):Vc P E n0 rs R (.code .skip::k) s
 | seq {k s x y} (h:Vc P E n0 rs R (.code x::.code y::k) s):Vc P E n0 rs R (.code (.seq x y)::k) s
 | cond {k s c x y} (t:Bool) (hc:ev s.T c=.sc (.bool t)) (h:Vc P E n0 rs R (.code (if t=true then x else y)::k) s):Vc P E n0 rs R (.code (.cond c x y)::k) s
 | block {k s id c} (h:Vc P E n0 rs R (.code c::.inBlock id::k) s):Vc P E n0 rs R (.code (.block id c)::k) s
 | inBlock {k s id} (h:Vc P E n0 rs R k s):Vc P E n0 rs R (.inBlock id::k) s
 | loop {k s c} (h:Go P E n0 rs R (.code (.loop c)::k) s):Vc P E n0 rs R (.code (.loop c)::k) s
 | inLoop {k s c} (h:Go P E n0 rs R (.inLoop c::k) s):Vc P E n0 rs R (.inLoop c::k) s
 | exit {k k' s id} (he:exitTo id k=some k') (h:Vc P E n0 rs R k' s):Vc P E n0 rs R (.code (.exit id)::k) s
 | region {k s s' id ops} (hr:Gr P E ops ops.toList s=some s') (h:Vc P E n0 rs R k s'):Vc P E n0 rs R (.code (.region id ops false)::k) s
 | draw {k s s' id ops} (hpm:E.perm id=none) (hr:DR P E ops (·=s') ops.toList 0 s [] []) (h:Vc P E n0 rs R k s'):Vc P E n0 rs R (.code (.region id ops true)::k) s
 | drawP {k s s' id ops i π} (hpm:E.perm id=some (i::π)) (hr:DR P E (CQ ops (i::π)) (·=s') (CQ ops (i::π)).toList 0 s [] []) (h:Vc P E n0 rs R k s'):Vc P E n0 rs R (.code (.region id ops true)::k) s
 | sem {k s id ops} (hpm:E.perm id=some []) (h:Go P E n0 rs R (.code (.region id ops true)::k) s):Vc P E n0 rs R (.code (.region id ops true)::k) s
section
variable {P:Program} {E:Env} {n0:Nat} {rs:List ResultVar} {R:AV→St→Prop}
theorem Aa {k s} (h:Vc P E n0 rs R k s):Go P E n0 rs R k s:=by
 induction h with
 | ret h hR=>exact .ret h hR
 | fin h hR=>exact .fin h hR
 | skip _ ih=>exact .skip ih
 | seq _ ih=>exact .seq ih
 | cond t hc _ ih=>exact .cond t hc ih
 | block _ ih=>exact .block ih
 | inBlock _ ih=>exact .inBlock ih
 | loop h=>exact h
 | inLoop h=>exact h
 | exit he _ ih=>exact .exit he ih
 | region hr _ ih=>exact .region hr ih
 | @draw k s s' id ops hpm hr _ ih=>
  cases hb:ops.toList.any Fy with
  | true=>exact .drawH hpm hb hr ih
  | false=>exact .draw hpm (Fa _ _ _ _ hb hr) ih
 | drawP hpm hr _ ih=>exact .drawP hpm hr ih
 | sem _ h=>exact h
def VcE (P:Program) (E:Env) (n0:Nat) (rs:List ResultVar) (R:AV→St→Prop) (s:St):Option (List Item)→Prop
 | some k=>Vc P E n0 rs R k s
 | none=>False
def VcC (P:Program) (E:Env) (n0:Nat) (rs:List ResultVar) (R:AV→St→Prop) (x y:Code) (k:List Item) (s:St):AV→Prop
 | .sc (.bool t)=>if t=true then Vc P E n0 rs R (.code x::k) s else Vc P E n0 rs R (.code y::k) s
 | _=>False
def VcO (P:Program) (E:Env) (n0:Nat) (rs:List ResultVar) (R:AV→St→Prop) (all:Array Oper) (r:List Oper) (k:List Item) (s:St):Prop:=
 ∃ s',Gr P E all r s=some s'∧Vc P E n0 rs R k s'
def VcS (P:Program) (E:Env) (n0:Nat) (rs:List ResultVar) (R:AV→St→Prop) (all:Array Oper) (r:List Oper) (k:List Item) (s:Option St):Prop:=
 ∃ s1,s=some s1∧VcO P E n0 rs R all r k s1
def VcR (R:AV→St→Prop) (s:St):Option (List AV)→Prop
 | some vs=>R (Hj vs) s
 | none=>False
variable {k:List Item} {s:St} {id:Nat}
theorem Ahi:Vc P E n0 rs R (.code .ret::k) s=VcR R s (C8 P s rs):=by
 apply propext; constructor
 ·intro h; cases h with | ret h hR=>rw [h]; exact hR
 ·intro h
  cases hv:C8 P s rs with
  | none=>rw [hv] at h; exact h.elim
  | some vs=>rw [hv] at h; exact .ret hv h
theorem Ahj:Vc P E n0 rs R [] s=VcR R s (C8 P s rs):=by
 apply propext; constructor
 ·intro h; cases h with | fin h hR=>rw [h]; exact hR
 ·intro h
  cases hv:C8 P s rs with
  | none=>rw [hv] at h; exact h.elim
  | some vs=>rw [hv] at h; exact .fin hv h
theorem VD (vs:List AV):VcR R s (some vs)=R (Hj vs) s:=rfl
theorem Z6:Vc P E n0 rs R (.code .skip::k) s=Vc P E n0 rs R k s:=propext ⟨fun h=>by cases h; assumption,.skip⟩
theorem Ahk (x y:Code):Vc P E n0 rs R (.code (.seq x y)::k) s=Vc P E n0 rs R (.code x::.code y::k) s:=propext ⟨fun h=>by cases h; assumption,.seq⟩
theorem VE (id:Nat) (c:Code):Vc P E n0 rs R (.code (.block id c)::k) s=Vc P E n0 rs R (.code c::.inBlock id::k) s:=propext ⟨fun h=>by cases h; assumption,.block⟩
theorem P9 (id:Nat):Vc P E n0 rs R (.inBlock id::k) s=Vc P E n0 rs R k s:=propext ⟨fun h=>by cases h; assumption,.inBlock⟩
theorem Z7 (c:Code):Vc P E n0 rs R (.code (.loop c)::k) s=Go P E n0 rs R (.code (.loop c)::k) s:=propext ⟨fun h=>by cases h; assumption,.loop⟩
theorem Sn (c:Code):Vc P E n0 rs R (.inLoop c::k) s=Go P E n0 rs R (.inLoop c::k) s:=propext ⟨fun h=>by cases h; assumption,.inLoop⟩
theorem Z8 (id:Nat):Vc P E n0 rs R (.code (.exit id)::k) s=VcE P E n0 rs R s (exitTo id k):=by
 apply propext; constructor
 ·intro h; cases h with | exit he h=>rw [he]; exact h
 ·intro h
  cases hv:exitTo id k with
  | none=>rw [hv] at h; exact h.elim
  | some k'=>rw [hv] at h; exact .exit hv h
theorem VF (k:List Item):VcE P E n0 rs R s (some k)=Vc P E n0 rs R k s:=rfl
theorem Qa (id:Nat) (k:List Item):exitTo id (.inBlock id::k)=some k:=by simp [exitTo]
theorem OD (id:Nat) (c:Code) (k:List Item):exitTo id (.code c::k)=exitTo id k:=rfl
theorem Lr (id:Nat) (c:Code) (k:List Item):exitTo id (.inLoop c::k)=exitTo id k:=rfl
theorem Z9 (c:Operand) (x y:Code):Vc P E n0 rs R (.code (.cond c x y)::k) s=VcC P E n0 rs R x y k s (ev s.T c):=by
 apply propext; constructor
 ·intro h
  cases h with
  | cond t hc h=>
   rw [hc]
   cases t
   ·exact h
   ·exact h
 ·intro h
  generalize hv:ev s.T c=v at h
  cases v with
  | sc u=>
   cases u with
   | bool t=>
    refine .cond t hv ?_
    cases t
    ·exact h
    ·exact h
   | _=>exact h.elim
  | _=>exact h.elim
theorem VG (x y:Code) (t:Bool):VcC P E n0 rs R x y k s (.sc (.bool t))=if t=true then Vc P E n0 rs R (.code x::k) s else Vc P E n0 rs R (.code y::k) s:=rfl
theorem So (id:Nat) (ops:Array Oper):Vc P E n0 rs R (.code (.region id ops false)::k) s=VcO P E n0 rs R ops ops.toList k s:=by
 apply propext; constructor
 ·intro h; cases h with | region hr h=>exact ⟨_,hr,h⟩
 ·rintro ⟨s',hr,h⟩; exact .region hr h
theorem Aa0 (hpm:E.perm id=none) (ops:Array Oper):Vc P E n0 rs R (.code (.region id ops true)::k) s=DR P E ops (Vc P E n0 rs R k) ops.toList 0 s [] []:=by
 apply propext; constructor
 ·intro h
  cases h with
  | draw _ hr h=>exact (Fl _ _ _ _ _).2 ⟨_,hr,h⟩
  | drawP hpm' hr h=>rw [hpm] at hpm'; cases hpm'
  | sem hpm' h=>rw [hpm] at hpm'; cases hpm'
 ·intro h
  obtain ⟨s1,h1,h2⟩:=(Fl _ _ _ _ _).1 h
  exact .draw hpm h1 h2
theorem Aa1 (all:Array Oper):VcO P E n0 rs R all [] k s=Vc P E n0 rs R k s:=by
 apply propext; constructor
 ·rintro ⟨s',h,h2⟩; simp only [Gr,lx16] at h; subst h; exact h2
 ·intro h; exact ⟨s,rfl,h⟩
theorem Sp (all:Array Oper) (o:Oper) (r:List Oper):VcO P E n0 rs R all (o::r) k s=VcS P E n0 rs R all r k (Gj E.lit o (Ai P E all s o) (Fc P s o.op o.dst)):=by
 apply propext; constructor
 ·rintro ⟨s',h,h2⟩
  simp only [Gr] at h
  split at h
  ·rename_i s1 h1; exact ⟨s1,h1,s',h,h2⟩
  ·cases h
 ·rintro ⟨s1,h1,s',h,h2⟩
  have h1':KO P E all s o=some s1:=h1
  exact ⟨s',by simp only [Gr,h1']; exact h,h2⟩
theorem VH (hl:E.lit=false) (all:Array Oper) (o:Oper) (r:List Oper):VcO P E n0 rs R all (o::r) k s=VcS P E n0 rs R all r k (Ai P E all s o):=by
 rw [Sp,hl]; rfl
theorem Sq (hl:E.lit=true) (all:Array Oper) (o:Oper) (r:List Oper):VcO P E n0 rs R all (o::r) k s=VcS P E n0 rs R all r k (Gj true o (Ai P E all s o) (Fc P s o.op o.dst)):=by
 rw [Sp,hl]
theorem Asg (d:Option Nat) (op:Op) (ty:TypeId) (pos:String) (af:Array Edge) (g:Nat × Bool) (x y:Option St):Gj true ⟨d,op,ty,pos,af,some g⟩ x y=x:=by simp [Gj]
theorem Ash (d:Option Nat) (t:TypeId) (n:Nat) (ps:Array (Nat × Operand)) (ty:TypeId) (pos:String) (af:Array Edge) (x y:Option St):Gj true ⟨d,.buildSlice t n ps,ty,pos,af,none⟩ x y=y:=by simp [Gj,CP]
theorem Qb (P:Program) (s:St) (op:Op) (d:Option Nat):Fc P s op d=Ae2 s d (AH P s op d):=rfl
theorem Sr (T T':List AV) (H H':List Blk) (c c':Nat) (d:Option Nat) (h:norefs (Dn H')=true):Ae2 ⟨T,H,c⟩ d (some ⟨T',H',c'⟩)=some (St.put ⟨T,H,c+1⟩ d (.vw false (Dn H'))):=by simp [Ae2,h]
theorem VI (all:Array Oper) (r:List Oper) (s:St):VcS P E n0 rs R all r k (some s)=VcO P E n0 rs R all r k s:=by
 apply propext; constructor
 ·rintro ⟨s1,h,h2⟩; cases h; exact h2
 ·intro h; exact ⟨s,rfl,h⟩
end
theorem Qc (P:Program) (s:St):C8 P s []=some []:=rfl
theorem Qd (P:Program) (s:St) (t:Nat) (r:List ResultVar):C8 P s (.tmp t::r)=(C8 P s r).map (s.T.getD t .un::·):=rfl
def Bac (v:Option AV) (r:Option (List AV)):Option (List AV):=
 match v with
 | some v=>r.map (v::·)
 | none=>none
theorem OE (P:Program) (s:St) (t ty:Nat) (r:List ResultVar):C8 P s (.cell t ty::r)=Bac (AI P s (.load ty (.tmp t))) (C8 P s r):=rfl
theorem Ss (v:AV) (r:List AV):Bac (some v) (some r)=some (v::r):=rfl
theorem Qe (v:AV):Hj [v]=v:=rfl
theorem Qf (v u:AV) (l:List AV):Hj (v::u::l)=.tu (v::u::l):=rfl
section
variable {P:Program} {E:Env} {all:Array Oper} {s:St} {d:Option Nat} {ty:TypeId} {pos:String} {af:Array Edge}
def gP (s:St) (d:Option Nat) (want:Bool) (v:Option AV):AV→Option St
 | .sc (.bool b)=>(if b=want then v else some .un).map (s.put d)
 | .un=>some (s.put d .un)
 | _=>none
def gH (s:St) (d:Option Nat) (want:Bool) (v:Option St):AV→Option St
 | .sc (.bool b)=>if b=want then v else some (s.put d .un)
 | .un=>some (s.put d .un)
 | _=>none
def oV (s:St) (d:Option Nat) (v:Option AV):Option St:=v.map (s.put d)
theorem Aa2 (v:AV):oV s d (some v)=some (s.put d v):=rfl
theorem Aa3 (want:Bool) (v:Option AV) (b:Bool):gP s d want v (.sc (.bool b))=oV s d (if b=want then v else some .un):=rfl
theorem Asi (want:Bool) (v:Option AV):gP s d want v .un=some (s.put d .un):=rfl
theorem Aa4 (want:Bool) (v:Option St) (b:Bool):gH s d want v (.sc (.bool b))=if b=want then v else some (s.put d .un):=rfl
theorem Ahl (want:Bool) (v:Option AV) (c:Prop) [Decidable c] (b:Bool):gP s d want v (if c then .sc (.bool b) else .un)=oV s d (if c∧b=want then v else some .un):=by
 by_cases h:c <;> simp [h,gP,oV]
theorem VJ {α:Type} (c:Prop) [Decidable c] (a b:α):(if c then some a else some b)=some (if c then a else b):=by split <;> rfl
theorem VK (c:Prop) [Decidable c] (a b:Bool):(if c then AV.sc (.bool a) else AV.sc (.bool b))=AV.sc (.bool (if c then a else b)):=by split <;> rfl
theorem Aa5 (a b:Bool):(if a=true then b else false)=(a && b):=by cases a <;> rfl
theorem Ahm (a b:Bool):(if a=true then true else b)=(a || b):=by cases a <;> rfl
theorem De (op:Op) (h1:Cw op=false) (h2:isHeapOp op=false):Ai P E all s ⟨d,op,ty,pos,af,none⟩=oV s d (AI P s op):=by
 simp [Ai,Bf,h1,h2,J3,oV]
theorem Dq (op:Op) (h1:Cw op=false) (h2:isHeapOp op=false) (j:Nat) (want:Bool):Ai P E all s ⟨d,op,ty,pos,af,some (j,want)⟩=gP s d want (AI P s op) (Au all s j):=by
 simp only [Ai,Bf,h1,h2,J3,gP]
 simp only [Dy,lx7,J9,lx6]
 generalize Au all s j=g
 cases g with
 | sc v=>cases v <;> rfl
 | _=>rfl
theorem Jv (op:Op) (h1:Cw op=false) (h2:isHeapOp op=true):Ai P E all s ⟨d,op,ty,pos,af,none⟩=AH P s op d:=by
 simp [Ai,Bf,h1,h2,Gq]
def Ls (E:Env) (s:St) (d:Option Nat) (b:Bool) (g:Nat) (args:List AV):Option St:=
 if b=true then oV s d (E.pcall g (Am s.H args)) else
  match E.hcall g args s.H s.cnt with
  | some (r,H',cnt')=>some (St.put { s with H:=H',cnt:=cnt' } d r)
  | none=>none
def Ahn (E:Env) (s:St) (d:Option Nat) (args:List AV):AV→Option St
 | .fn g caps=>Ls E s d (E.isP g) g (args++caps)
 | _=>none
theorem VM (args:List AV) (g:Nat) (caps:List AV):Ahn E s d args (.fn g caps)=Ls E s d (E.isP g) g (args++caps):=rfl
theorem Aa6 (g:Nat) (args:List AV):Ls E s d true g args=oV s d (E.pcall g (Am s.H args)):=by simp [Ls]
def Avd (s:St) (d:Option Nat):Option (AV × List Blk × Nat)→Option St
 | some (r,H',cnt')=>some (St.put { s with H:=H',cnt:=cnt' } d r)
 | none=>none
theorem Aa7 (g:Nat) (args:List AV):Ls E s d false g args=Avd s d (E.hcall g args s.H s.cnt):=by
 simp only [Ls,Avd,Dy,lx7]
theorem Su (T:List AV) (H H':List Blk) (c c':Nat) (r:AV):Avd ⟨T,H,c⟩ d (some (r,H',c'))=some (St.put ⟨T,H',c'⟩ d r):=rfl
theorem Aa8 (f:Operand) (args:Array Operand) (ats:Array TypeId):Ai P E all s ⟨d,.call ⟨.value f,args,ats⟩,ty,pos,af,none⟩=Ahn E s d (args.toList.map (ev s.T)) (ev s.T f):=by
 simp only [Ai,Bf,Cw,lx6,J3,Gq,Fw]
 generalize ev s.T f=v
 cases v with
 | fn g caps=>
  simp only [Ahn,Ls,G3]
  cases E.isP g
  ·simp only [Dy,lx7]
   generalize E.hcall g (List.map (ev s.T) args.toList++caps) s.H s.cnt=hh
   cases hh with
   | none=>rfl
   | some p=>rfl
  ·rfl
 | _=>rfl
def Qg (E:Env) (s:St) (d:Option Nat) (want:Bool) (args:List AV) (g:AV):AV→Option St
 | .fn f caps=>if E.isP f=true then gP s d want (E.pcall f (Am s.H (args++caps))) g else gH s d want (Ls E s d false f (args++caps)) g
 | _=>gP s d want none g
theorem Sv (want:Bool) (args:List AV) (g:AV) (f:Nat) (caps:List AV):
  Qg E s d want args g (.fn f caps)=if E.isP f=true then gP s d want (E.pcall f (Am s.H (args++caps))) g else gH s d want (Ls E s d false f (args++caps)) g:=rfl
theorem VN (f:Operand) (args:Array Operand) (ats:Array TypeId) (j:Nat) (want:Bool):
  Ai P E all s ⟨d,.call ⟨.value f,args,ats⟩,ty,pos,af,some (j,want)⟩=Qg E s d want (args.toList.map (ev s.T)) (Au all s j) (ev s.T f):=by
 simp only [Ai,Bf,Cw,lx6,J3,Gq,Fw]
 generalize ev s.T f=v
 generalize Au all s j=g
 cases v with
 | fn h caps=>
  simp only [Qg,Ls,G3]
  cases E.isP h
  ·simp only [Dy,lx7,gH]
   generalize E.hcall h (List.map (ev s.T) args.toList++caps) s.H s.cnt=hh
   cases g with
   | sc v=>
    cases v with
    | bool b=>cases hh <;> rfl
    | _=>rfl
   | _=>rfl
  ·simp only [lx6,gP]
   cases g with
   | sc v=>cases v <;> rfl
   | _=>rfl
 | _=>
  simp only [Qg,gP]
  cases g with
  | sc v=>cases v <;> rfl
  | _=>rfl
theorem Aa9 (x:Operand):Ai P E all s ⟨d,.move x,ty,pos,af,none⟩=oV s d (AI P s (.move x)):=De _ rfl rfl
theorem Sw (x:Operand) (j:Nat) (want:Bool):Ai P E all s ⟨d,.move x,ty,pos,af,some (j,want)⟩=gP s d want (AI P s (.move x)) (Au all s j):=Dq _ rfl rfl j want
theorem Sx (x:Operand):Ai P E all s ⟨d,.assign x,ty,pos,af,none⟩=oV s d (AI P s (.assign x)):=De _ rfl rfl
theorem Aaa (c a b:Operand):Ai P E all s ⟨d,.pick c a b,ty,pos,af,none⟩=oV s d (AI P s (.pick c a b)):=De _ rfl rfl
theorem Sy (c a b:Operand) (j:Nat) (want:Bool):Ai P E all s ⟨d,.pick c a b,ty,pos,af,some (j,want)⟩=gP s d want (AI P s (.pick c a b)) (Au all s j):=Dq _ rfl rfl j want
theorem Aab (t:TypeId) (x:Operand):Ai P E all s ⟨d,.load t x,ty,pos,af,none⟩=oV s d (AI P s (.load t x)):=De _ rfl rfl
theorem Sz (t:TypeId) (x:Operand) (j:Nat) (want:Bool):Ai P E all s ⟨d,.load t x,ty,pos,af,some (j,want)⟩=gP s d want (AI P s (.load t x)) (Au all s j):=Dq _ rfl rfl j want
theorem OF (x:Operand):Ai P E all s ⟨d,.nilCheck x,ty,pos,af,none⟩=oV s d (AI P s (.nilCheck x)):=De _ rfl rfl
theorem Lt (x:Operand) (j:Nat) (want:Bool):Ai P E all s ⟨d,.nilCheck x,ty,pos,af,some (j,want)⟩=gP s d want (AI P s (.nilCheck x)) (Au all s j):=Dq _ rfl rfl j want
theorem VO (op:BinOp) (t:TypeId) (x y:Operand) (t':TypeId):Ai P E all s ⟨d,.binOp op t x y t',ty,pos,af,none⟩=oV s d (AI P s (.binOp op t x y t')):=De _ rfl rfl
theorem Qh (op:BinOp) (t:TypeId) (x y:Operand) (t':TypeId) (j:Nat) (want:Bool):Ai P E all s ⟨d,.binOp op t x y t',ty,pos,af,some (j,want)⟩=gP s d want (AI P s (.binOp op t x y t')) (Au all s j):=Dq _ rfl rfl j want
theorem Aac (op:UnOp) (t:TypeId) (x:Operand):Ai P E all s ⟨d,.unOp op t x,ty,pos,af,none⟩=oV s d (AI P s (.unOp op t x)):=De _ rfl rfl
theorem SA (op:UnOp) (t:TypeId) (x:Operand) (j:Nat) (want:Bool):Ai P E all s ⟨d,.unOp op t x,ty,pos,af,some (j,want)⟩=gP s d want (AI P s (.unOp op t x)) (Au all s j):=Dq _ rfl rfl j want
theorem Qi (t t':TypeId) (x:Operand):Ai P E all s ⟨d,.convert t t' x,ty,pos,af,none⟩=oV s d (AI P s (.convert t t' x)):=De _ rfl rfl
theorem MM (t t':TypeId) (x:Operand) (j:Nat) (want:Bool):Ai P E all s ⟨d,.convert t t' x,ty,pos,af,some (j,want)⟩=gP s d want (AI P s (.convert t t' x)) (Au all s j):=Dq _ rfl rfl j want
theorem OG (f:Fn) (a b:Array Operand):Ai P E all s ⟨d,.makeFunc f a b,ty,pos,af,none⟩=oV s d (AI P s (.makeFunc f a b)):=De _ rfl rfl
theorem Lu (f:Fn) (a b:Array Operand) (j:Nat) (want:Bool):Ai P E all s ⟨d,.makeFunc f a b,ty,pos,af,some (j,want)⟩=gP s d want (AI P s (.makeFunc f a b)) (Au all s j):=Dq _ rfl rfl j want
theorem VP (t:TypeId) (x:Operand) (a b c:Option Operand):Ai P E all s ⟨d,.slice t x a b c,ty,pos,af,none⟩=oV s d (AI P s (.slice t x a b c)):=De _ rfl rfl
theorem MN (t:TypeId) (x:Operand) (f:Nat):Ai P E all s ⟨d,.fieldAddr t x f,ty,pos,af,none⟩=oV s d (AI P s (.fieldAddr t x f)):=De _ rfl rfl
theorem Kj (t:TypeId) (x:Operand) (f:Nat) (j:Nat) (want:Bool):Ai P E all s ⟨d,.fieldAddr t x f,ty,pos,af,some (j,want)⟩=gP s d want (AI P s (.fieldAddr t x f)) (Au all s j):=Dq _ rfl rfl j want
theorem MO (t:TypeId) (x y:Operand):Ai P E all s ⟨d,.indexAddr t x y,ty,pos,af,none⟩=oV s d (AI P s (.indexAddr t x y)):=De _ rfl rfl
theorem Kk (t:TypeId) (x y:Operand) (j:Nat) (want:Bool):Ai P E all s ⟨d,.indexAddr t x y,ty,pos,af,some (j,want)⟩=gP s d want (AI P s (.indexAddr t x y)) (Au all s j):=Dq _ rfl rfl j want
theorem VQ (t:TypeId) (x y:Operand):Ai P E all s ⟨d,.index t x y,ty,pos,af,none⟩=oV s d (AI P s (.index t x y)):=De _ rfl rfl
theorem Qj (t:TypeId) (x y:Operand) (j:Nat) (want:Bool):Ai P E all s ⟨d,.index t x y,ty,pos,af,some (j,want)⟩=gP s d want (AI P s (.index t x y)) (Au all s j):=Dq _ rfl rfl j want
theorem Qk (x:Operand) (i:Nat):Ai P E all s ⟨d,.extract x i,ty,pos,af,none⟩=oV s d (AI P s (.extract x i)):=De _ rfl rfl
theorem VS (t:TypeId) (ps:Array (Nat × Operand)):Ai P E all s ⟨d,.build t ps,ty,pos,af,none⟩=oV s d (AI P s (.build t ps)):=De _ rfl rfl
theorem Ql (t:TypeId) (ps:Array (Nat × Operand)) (j:Nat) (want:Bool):Ai P E all s ⟨d,.build t ps,ty,pos,af,some (j,want)⟩=gP s d want (AI P s (.build t ps)) (Au all s j):=Dq _ rfl rfl j want
theorem Aho (a:Array Operand) (b:Array TypeId):Ai P E all s ⟨d,.call ⟨.builtin .len,a,b⟩,ty,pos,af,none⟩=oV s d (AI P s (.call ⟨.builtin .len,a,b⟩)):=De _ rfl rfl
theorem VT (a:Array Operand) (b:Array TypeId) (j:Nat) (want:Bool):Ai P E all s ⟨d,.call ⟨.builtin .len,a,b⟩,ty,pos,af,some (j,want)⟩=gP s d want (AI P s (.call ⟨.builtin .len,a,b⟩)) (Au all s j):=Dq _ rfl rfl j want
theorem Ahp (a:Array Operand) (b:Array TypeId):Ai P E all s ⟨d,.call ⟨.builtin .min,a,b⟩,ty,pos,af,none⟩=oV s d (AI P s (.call ⟨.builtin .min,a,b⟩)):=De _ rfl rfl
theorem VU (a:Array Operand) (b:Array TypeId) (j:Nat) (want:Bool):Ai P E all s ⟨d,.call ⟨.builtin .min,a,b⟩,ty,pos,af,some (j,want)⟩=gP s d want (AI P s (.call ⟨.builtin .min,a,b⟩)) (Au all s j):=Dq _ rfl rfl j want
theorem Ahq (a:Array Operand) (b:Array TypeId):Ai P E all s ⟨d,.call ⟨.builtin .max,a,b⟩,ty,pos,af,none⟩=oV s d (AI P s (.call ⟨.builtin .max,a,b⟩)):=De _ rfl rfl
theorem VV (t:TypeId):Ai P E all s ⟨d,.alloc t,ty,pos,af,none⟩=AH P s (.alloc t) d:=Jv _ rfl rfl
theorem Ahr (t:TypeId) (x:Operand):Ai P E all s ⟨d,.box t x,ty,pos,af,none⟩=AH P s (.box t x) d:=Jv _ rfl rfl
theorem Lv (t:TypeId) (n:Nat) (ps:Array (Nat × Operand)):Ai P E all s ⟨d,.buildSlice t n ps,ty,pos,af,none⟩=AH P s (.buildSlice t n ps) d:=Jv _ rfl rfl
theorem VW (t:TypeId) (x y:Operand):Ai P E all s ⟨d,.store t x y,ty,pos,af,none⟩=AH P s (.store t x y) d:=Jv _ rfl rfl
theorem MP (t:TypeId) (x y:Operand):Ai P E all s ⟨d,.makeSlice t x y,ty,pos,af,none⟩=AH P s (.makeSlice t x y) d:=Jv _ rfl rfl
theorem SB (a:Array Operand) (b:Array TypeId):Ai P E all s ⟨d,.call ⟨.builtin .append,a,b⟩,ty,pos,af,none⟩=AH P s (.call ⟨.builtin .append,a,b⟩) d:=Jv _ rfl rfl
theorem VX (a:Array Operand) (b:Array TypeId):Ai P E all s ⟨d,.call ⟨.builtin .clear,a,b⟩,ty,pos,af,none⟩=AH P s (.call ⟨.builtin .clear,a,b⟩) d:=Jv _ rfl rfl
theorem Ahs (T:List AV) (t:Nat):ev T (.tmp t)=T.getD t .un:=rfl
theorem Aad (T:List AV) (f:Nat):ev T (.func f)=.fn f []:=rfl
theorem Aht (T:List AV) (k:IntKind) (n:Int):ev T (.const (.int k n))=.sc (.int k n):=rfl
theorem Aae (T:List AV) (b:Bool):ev T (.const (.bool b))=.sc (.bool b):=rfl
theorem Ahu (T:List AV) (b:ByteArray):ev T (.const (.string b))=.sc (.string b):=rfl
theorem Ahv (T:List AV):ev T (.const (.slice none 0 0))=.vw true []:=rfl
theorem SC (x:Operand):AI P s (.move x)=some (ev s.T x):=rfl
theorem OH (x:Operand):AI P s (.assign x)=some (ev s.T x):=rfl
def Ahw (a b:AV):AV→Option AV
 | .sc (.bool t)=>some (if t=true then a else b)
 | _=>none
theorem SD (c a b:Operand):AI P s (.pick c a b)=Ahw (ev s.T a) (ev s.T b) (ev s.T c):=by
 simp only [AI,Ahw]
 generalize ev s.T c=v
 cases v with
 | sc v=>cases v <;> rfl
 | _=>rfl
theorem Qm (a b:AV) (t:Bool):Ahw a b (.sc (.bool t))=some (if t=true then a else b):=rfl
def ldE (d:TyD) (off:Nat):Option AV→Option AV
 | some e=>Fk d e.cells off
 | none=>none
def ldB (d:TyD) (i off:Nat):Option Blk→Option AV
 | some B=>ldE d off B.els[i]?
 | none=>none
def ldV (d:TyD) (off:Nat):Option AV→Option AV
 | some e=>match Fk d e.cells off with
  | some v=>if v.noref=true then some v else none
  | none=>none
 | none=>none
def Aaf (H:List Blk):Option TyD→AV→Option AV
 | some d,.pt id ver i off=>ldB d i off (AP H id ver)
 | some d,.vp es i off=>ldV d off es[i]?
 | _,_=>none
theorem SE (t:TypeId) (x:Operand):AI P s (.load t x)=Aaf s.H (Bt P t) (ev s.T x):=by
 simp only [AI,Aaf,ldB,ldE,ldV]
 generalize ev s.T x=v
 generalize Bt P t=d
 cases d with
 | none=>rfl
 | some d=>cases v <;> rfl
theorem VY (H:List Blk) (d:TyD) (id ver i off:Nat):Aaf H (some d) (.pt id ver i off)=ldB d i off (AP H id ver):=rfl
theorem VZ (H:List Blk) (d:TyD) (es:List AV) (i off:Nat):Aaf H (some d) (.vp es i off)=ldV d off es[i]?:=rfl
theorem V0 (d:TyD) (i off:Nat) (B:Blk):ldB d i off (some B)=ldE d off B.els[i]?:=rfl
theorem V1 (d:TyD) (off:Nat) (e:AV):ldE d off (some e)=Fk d e.cells off:=rfl
def ldW:Option AV→Option AV
 | some v=>if v.noref=true then some v else none
 | none=>none
theorem V2 (d:TyD) (off:Nat) (e:AV):ldV d off (some e)=ldW (Fk d e.cells off):=rfl
theorem V3 (v:AV):ldW (some v)=if v.noref=true then some v else none:=rfl
theorem SF (sz bytes:Nat) (zero el len fl) (cs:List AV) (off:Nat):Fk ⟨true,sz,bytes,zero,el,len,fl⟩ cs off=if off+sz≤cs.length then some (.ag ((cs.drop off).take sz)) else none:=rfl
theorem SG (sz bytes:Nat) (zero el len fl) (cs:List AV) (off:Nat):Fk ⟨false,sz,bytes,zero,el,len,fl⟩ cs off=cs[off]?:=rfl
theorem V4 (cs:List AV):AV.cells (.ag cs)=cs:=rfl
theorem V5 (v:Value):AV.cells (.sc v)=[.sc v]:=rfl
theorem V6 (z:Bool) (es:List AV):AV.cells (.vw z es)=[.vw z es]:=rfl
theorem V7 (a b c d:Nat):AV.cells (.sl a b c d)=[.sl a b c d]:=rfl
theorem MQ (z:Bool) (es:List AV):AV.noref (.vw z es)=true:=by simp [AV.noref]
theorem OI (a:AV) (r:List AV):norefs (a::r)=(a.noref && norefs r):=by simp [norefs]
def Fp (P:Program) (op:BinOp) (t:TypeId) (x y:Operand) (u v:AV):Option AV:=
 match Cv u,Cv v with
 | some a,some b=>match Cg P (do eqGuard op t x y a b; binOp op t a b) with
  | some v=>some (Mt v)
  | none=>none
 | _,_=>Ae1 P op t u y
theorem Jw (op:BinOp) (t t':TypeId) (x y:Operand):AI P s (.binOp op t x y t')=Fp P op t x y (MC s.H (ev s.T x)) (ev s.T y):=rfl
theorem Aag (H:List Blk) (v:Value):MC H (.sc v)=.sc v:=rfl
theorem Aah (H:List Blk) (l:List AV):MC H (.ag l)=.ag l:=rfl
theorem Aai (H:List Blk) (z:Bool) (l:List AV):MC H (.vw z l)=.vw z l:=rfl
theorem OJ (t:TypeId) (x:Operand) (u:AV):Fp P .eql t x (.const (.slice none 0 0)) u (.vw true [])=Vh .eql (PO P t) (Ke u):=by
 unfold Fp
 cases Cv u <;> rfl
theorem V8 (b:Bool):Vh .eql true (some b)=some (.sc (.bool b)):=rfl
theorem V9 (z:Bool) (e:AV) (l:List AV):Ke (.vw z (e::l))=some false:=rfl
theorem Wa (l c:Nat):Ke (.sc (.slice none l c))=some true:=rfl
theorem Wb (a:Addr) (l c:Nat):Ke (.sc (.slice (some a) l c))=some false:=rfl
theorem Aeg {op:BinOp} {t:TypeId} {x y:Operand} {k k':IntKind} {a b:Int} {v:Value} (h:rd P (binOp op t (.int k a) (.int k' b)) default=some v):
  Cg P (do eqGuard op t x y (.int k a) (.int k' b); binOp op t (.int k a) (.int k' b))=some v:=by
 unfold Cg
 rw [Ak]
 have:rd P (eqGuard op t x y (.int k a) (.int k' b)) default=some ():=by
  unfold eqGuard
  split <;> rfl
 rw [this]
 exact h
section
variable (t:TypeId) (x y:Operand) (k:IntKind) (a b:Int)
theorem EW {op:BinOp} {k k':IntKind} {v:Value} (h:rd P (binOp op t (.int k a) (.int k' b)) default=some v):Fp P op t x y (.sc (.int k a)) (.sc (.int k' b))=some (Mt v):=by
 simp only [Fp,Cv,Aeg h]
theorem T4:Fp P .add t x y (.sc (.int k a)) (.sc (.int k b))=some (.sc (.int k (k.wrap (a+b)))):=EW _ _ _ _ _ (v:=.int k (k.wrap (a+b))) (by simp [binOp,Op.intArith,An])
theorem T5:Fp P .sub t x y (.sc (.int k a)) (.sc (.int k b))=some (.sc (.int k (k.wrap (a - b)))):=EW _ _ _ _ _ (v:=.int k (k.wrap (a - b))) (by simp [binOp,Op.intArith,An])
theorem Aaj:Fp P .mul t x y (.sc (.int k a)) (.sc (.int k b))=some (.sc (.int k (k.wrap (a * b)))):=EW _ _ _ _ _ (v:=.int k (k.wrap (a * b))) (by simp [binOp,Op.intArith,An])
theorem T6:Fp P .eql t x y (.sc (.int k a)) (.sc (.int k b))=some (.sc (.bool (a == b))):=EW _ _ _ _ _ (v:=.bool (a == b)) (by simp [binOp,Op.intCmp,An])
theorem T7:Fp P .neq t x y (.sc (.int k a)) (.sc (.int k b))=some (.sc (.bool (a != b))):=EW _ _ _ _ _ (v:=.bool (a != b)) (by simp [binOp,Op.intCmp,An])
theorem T8:Fp P .lss t x y (.sc (.int k a)) (.sc (.int k b))=some (.sc (.bool (decide (a < b)))):=EW _ _ _ _ _ (v:=.bool (decide (a < b))) (by simp [binOp,Op.intCmp,An])
theorem T9:Fp P .leq t x y (.sc (.int k a)) (.sc (.int k b))=some (.sc (.bool (decide (a≤b)))):=EW _ _ _ _ _ (v:=.bool (decide (a≤b))) (by simp [binOp,Op.intCmp,An])
theorem Ua:Fp P .gtr t x y (.sc (.int k a)) (.sc (.int k b))=some (.sc (.bool (decide (b < a)))):=EW _ _ _ _ _ (v:=.bool (decide (b < a))) (by simp [binOp,Op.intCmp,An])
theorem Ub:Fp P .geq t x y (.sc (.int k a)) (.sc (.int k b))=some (.sc (.bool (decide (b≤a)))):=EW _ _ _ _ _ (v:=.bool (decide (b≤a))) (by simp [binOp,Op.intCmp,An])
theorem Aak (h:b≠0):Fp P .quo t x y (.sc (.int k a)) (.sc (.int k b))=some (.sc (.int k (k.wrap (a.tdiv b)))):=EW _ _ _ _ _ (v:=.int k (k.wrap (a.tdiv b))) (by simp [binOp,Op.intDiv,An,h])
theorem Aal (h:b≠0):Fp P .rem t x y (.sc (.int k a)) (.sc (.int k b))=some (.sc (.int k (a.tmod b))):=EW _ _ _ _ _ (v:=.int k (a.tmod b)) (by simp [binOp,Op.intDiv,An,h])
def EX (op:BinOp) (k:IntKind) (a b:Int):Int:=
 let x:=BitVec.ofInt k.bits a
 let y:=BitVec.ofInt k.bits b
 k.wrap ((match op with | .and=>x &&& y | .or=>x ||| y | .xor=>x ^^^ y | _=>x &&& ~~~y).toNat)
theorem Aam:Fp P .and t x y (.sc (.int k a)) (.sc (.int k b))=some (.sc (.int k (EX .and k a b))):=EW _ _ _ _ _ (v:=.int k (EX .and k a b)) (by simp [binOp,Op.intBits,An,EX])
theorem Ahx:Fp P .or t x y (.sc (.int k a)) (.sc (.int k b))=some (.sc (.int k (EX .or k a b))):=EW _ _ _ _ _ (v:=.int k (EX .or k a b)) (by simp [binOp,Op.intBits,An,EX])
theorem Qn:Fp P .andNot t x y (.sc (.int k a)) (.sc (.int k b))=some (.sc (.int k (EX .andNot k a b))):=EW _ _ _ _ _ (v:=.int k (EX .andNot k a b)) (by simp [binOp,Op.intBits,An,EX])
def NM (k:IntKind) (a b:Int):Int:=k.wrap (a * 2 ^ (min b.toNat k.bits))
def I2 (k:IntKind) (a b:Int):Int:=a.fdiv (2 ^ (min b.toNat k.bits))
theorem Aan (k':IntKind) (h:0≤b):Fp P .shl t x y (.sc (.int k a)) (.sc (.int k' b))=some (.sc (.int k (NM k a b))):=EW _ _ _ _ _ (v:=.int k (NM k a b)) (by
 have h':¬ b < 0:=Ah
 simp [binOp,Op.shift,An,NM,h'])
theorem Aao (k':IntKind) (h:0≤b):Fp P .shr t x y (.sc (.int k a)) (.sc (.int k' b))=some (.sc (.int k (I2 k a b))):=EW _ _ _ _ _ (v:=.int k (I2 k a b)) (by
 have h':¬ b < 0:=Ah
 simp [binOp,Op.shift,An,I2,h'])
end
def unA (P:Program) (op:UnOp) (u:AV):Option AV:=
 match Cv u with
 | some a=>match Cg P (Op.unary op a) with
  | some v=>some (Mt v)
  | none=>none
 | none=>none
theorem SH (op:UnOp) (t:TypeId) (x:Operand):AI P s (.unOp op t x)=unA P op (ev s.T x):=rfl
theorem Ahy (b:Bool):unA P .not (.sc (.bool b))=some (.sc (.bool (!b))):=rfl
theorem Ahz (k:IntKind) (n:Int):unA P .neg (.sc (.int k n))=some (.sc (.int k (k.wrap (0 - n)))):=rfl
def cvA (P:Program) (src dst:TypeId) (u:AV):Option AV:=
 match Cv u with
 | some a=>match Cg P (convert src dst a) with
  | some v=>some (Mt v)
  | none=>none
 | none=>none
theorem RM (src dst:TypeId) (x:Operand):AI P s (.convert src dst x)=cvA P src dst (ev s.T x):=rfl
theorem Ave {src dst:TypeId} {ks kd:IntKind} (h1:P.underlying src=some (.int ks)) (h2:P.underlying dst=some (.int kd)) (k:IntKind) (n:Int):
  cvA P src dst (.sc (.int k n))=some (.sc (.int kd (kd.wrap n))):=by
 have:Cg P (convert src dst (.int k n))=some (.int kd (kd.wrap n)):=by
  unfold Cg convert
  simp only [Ak,AG,h1,h2,lx17]
  rfl
 simp only [cvA,Cv,this]; rfl
def cvX (P:Program) (src dst:TypeId) (u:AV):Option TypeDesc→Option TypeDesc→Option AV
 | some (.int _),some (.int kd)=>match u with
  | .sc (.int _ n)=>some (.sc (.int kd (kd.wrap n)))
  | _=>cvA P src dst u
 | _,_=>cvA P src dst u
theorem Fz (src dst:TypeId) (x:Operand):AI P s (.convert src dst x)=cvX P src dst (ev s.T x) (P.underlying src) (P.underlying dst):=by
 rw [RM]
 generalize ev s.T x=u
 unfold cvX
 split
 ·rename_i h1 h2
  split
  ·exact Ave h1 h2 _ _
  ·rfl
 ·rfl
theorem Pj (src dst:TypeId) (ks kd k:IntKind) (n:Int):cvX P src dst (.sc (.int k n)) (some (.int ks)) (some (.int kd))=some (.sc (.int kd (kd.wrap n))):=rfl
def faA (H:List Blk) (off:Nat):AV→Option AV
 | .pt id ver i o=>match AP H id ver with
  | some _=>some (.pt id ver i (o+off))
  | none=>none
 | .vp es i o=>some (.vp es i (o+off))
 | _=>none
def faD (P:Program) (H:List Blk) (v:AV):Option (Nat × Nat)→Option AV
 | some (off,ft)=>match Bt P ft with
  | some df=>if df.sz=0 then none else faA H off v
  | none=>none
 | none=>none
def faT (P:Program) (H:List Blk) (f:Nat) (v:AV):Option TyD→Option AV
 | some d=>faD P H v d.flds[f]?
 | none=>none
theorem Kl (t:TypeId) (x:Operand) (f:Nat):AI P s (.fieldAddr t x f)=faT P s.H f (ev s.T x) (Bt P t):=by
 simp only [AI,faT,faD,faA]
 cases Bt P t with
 | none=>rfl
 | some d=>
  simp only
  cases d.flds[f]? with
  | none=>rfl
  | some p=>
   obtain ⟨off,ft⟩:=p
   simp only
   cases Bt P ft with
   | none=>rfl
   | some df=>
    simp only
    split
    ·rfl
    ·cases ev s.T x <;> rfl
theorem Wc (H:List Blk) (f:Nat) (v:AV) (d:TyD):faT P H f v (some d)=faD P H v d.flds[f]?:=rfl
def faS (H:List Blk) (off:Nat) (v:AV):Option TyD→Option AV
 | some df=>if df.sz=0 then none else faA H off v
 | none=>none
theorem Wd (H:List Blk) (v:AV) (off ft:Nat):faD P H v (some (off,ft))=faS H off v (Bt P ft):=rfl
theorem We (H:List Blk) (off:Nat) (v:AV) (d:TyD):faS H off v (some d)=if d.sz=0 then none else faA H off v:=rfl
def faL (o:Option Blk) (v:AV):Option AV:=match o with | some _=>some v | none=>none
theorem Ai0 (H:List Blk) (off id ver i o:Nat):faA H off (.pt id ver i o)=faL (AP H id ver) (.pt id ver i (o+off)):=rfl
theorem Ai1 (H:List Blk) (off i o:Nat) (es:List AV):faA H off (.vp es i o)=some (.vp es i (o+off)):=rfl
theorem Wf (B:Blk) (v:AV):faL (some B) v=some v:=rfl
theorem Lw (x:Operand):AI P s (.nilCheck x)=(match ev s.T x with
  | .pt id ver i off=>faL (AP s.H id ver) (.pt id ver i off)
  | .vp es i off=>some (.vp es i off)
  | .fn f cs=>some (.fn f cs)
  | _=>none):=rfl
theorem MR (x:Operand) (i:Nat):AI P s (.extract x i)=(match ev s.T x with | .tu vs=>vs[i]? | _=>none):=rfl
end
section
variable {E:Env} {s:St}
theorem Aap {κ:Nat→Bool} (x:Operand):CJ κ (.move x)=false:=rfl
theorem SI {κ:Nat→Bool} (x:Operand):CJ κ (.assign x)=false:=rfl
theorem Aaq {κ:Nat→Bool} (a b c:Operand):CJ κ (.pick a b c)=false:=rfl
theorem Wg {κ:Nat→Bool} (op:BinOp) (t:TypeId) (x y:Operand) (t':TypeId):CJ κ (.binOp op t x y t')=false:=rfl
theorem Aar {κ:Nat→Bool} (op:UnOp) (t:TypeId) (x:Operand):CJ κ (.unOp op t x)=false:=rfl
theorem Qo {κ:Nat→Bool} (a b:TypeId) (x:Operand):CJ κ (.convert a b x)=false:=rfl
theorem Qp {κ:Nat→Bool} (x:Operand) (i:Nat):CJ κ (.extract x i)=false:=rfl
theorem Wh {κ:Nat→Bool} (t:TypeId) (ps:Array (Nat × Operand)):CJ κ (.build t ps)=false:=rfl
theorem Aas {κ:Nat→Bool} (t:TypeId) (x:Operand):CJ κ (.load t x)=false:=rfl
theorem OK {κ:Nat→Bool} (x:Operand):CJ κ (.nilCheck x)=false:=rfl
theorem MS {κ:Nat→Bool} (t:TypeId) (x:Operand) (f:Nat):CJ κ (.fieldAddr t x f)=false:=rfl
theorem MU {κ:Nat→Bool} (t:TypeId) (x y:Operand):CJ κ (.indexAddr t x y)=false:=rfl
theorem Wi {κ:Nat→Bool} (t:TypeId) (x:Operand) (a b c:Option Operand):CJ κ (.slice t x a b c)=false:=rfl
theorem Wj {κ:Nat→Bool} (g:Nat) (a:Array Operand) (b:Array TypeId):CJ κ (.call ⟨.value (.func g),a,b⟩)=κ g:=rfl
theorem Wk {κ:Nat→Bool} (t:Nat) (a:Array Operand) (b:Array TypeId):CJ κ (.call ⟨.value (.tmp t),a,b⟩)=false:=rfl
theorem Ai2 {κ:Nat→Bool} (a:Array Operand) (b:Array TypeId):CJ κ (.call ⟨.builtin .len,a,b⟩)=false:=rfl
theorem Ai3 {κ:Nat→Bool} (a:Array Operand) (b:Array TypeId):CJ κ (.call ⟨.builtin .min,a,b⟩)=false:=rfl
theorem Ai4 {κ:Nat→Bool} (a:Array Operand) (b:Array TypeId):CJ κ (.call ⟨.builtin .max,a,b⟩)=false:=rfl
theorem Ai5 {κ:Nat→Bool} (t:TypeId) (x:Operand):CJ κ (.box t x)=true:=rfl
theorem Wl {κ:Nat→Bool} (t:TypeId):CJ κ (.alloc t)=true:=rfl
theorem Wm {κ:Nat→Bool} (t:TypeId) (x y:Operand):CJ κ (.store t x y)=true:=rfl
theorem Lx {κ:Nat→Bool} (t:TypeId) (n:Nat) (ps:Array (Nat × Operand)):CJ κ (.buildSlice t n ps)=true:=rfl
theorem MV {κ:Nat→Bool} (t:TypeId) (x y:Operand):CJ κ (.makeSlice t x y)=true:=rfl
theorem SJ {κ:Nat→Bool} (a:Array Operand) (b:Array TypeId):CJ κ (.call ⟨.builtin .append,a,b⟩)=true:=rfl
theorem Aat (x:Operand):Ba (.move x)=true:=rfl
theorem SK (x:Operand):Ba (.assign x)=true:=rfl
theorem Aau (a b c:Operand):Ba (.pick a b c)=true:=rfl
theorem Wn (op:BinOp) (t:TypeId) (x y:Operand) (t':TypeId):Ba (.binOp op t x y t')=!Ah9 y:=rfl
theorem Wo (x:Nat):Ah9 (.tmp x)=false:=rfl
theorem Wp (k:IntKind) (n:Int):Ah9 (.const (.int k n))=false:=rfl
theorem Aav (op:UnOp) (t:TypeId) (x:Operand):Ba (.unOp op t x)=true:=rfl
theorem Qq (a b:TypeId) (x:Operand):Ba (.convert a b x)=true:=rfl
theorem Qr (x:Operand) (i:Nat):Ba (.extract x i)=true:=rfl
theorem Wq (t:TypeId) (ps:Array (Nat × Operand)):Ba (.build t ps)=true:=rfl
theorem Aaw (t:TypeId) (x:Operand):Ba (.load t x)=false:=rfl
theorem OL (x:Operand):Ba (.nilCheck x)=false:=rfl
theorem MW (t:TypeId) (x:Operand) (f:Nat):Ba (.fieldAddr t x f)=false:=rfl
theorem MX (t:TypeId) (x y:Operand):Ba (.indexAddr t x y)=false:=rfl
theorem Wr (t:TypeId) (x:Operand) (a b c:Option Operand):Ba (.slice t x a b c)=false:=rfl
theorem Aax (f:Operand) (a:Array Operand) (b:Array TypeId):Ba (.call ⟨.value f,a,b⟩)=false:=rfl
theorem Ai6 (a:Array Operand) (b:Array TypeId):Ba (.call ⟨.builtin .len,a,b⟩)=false:=rfl
theorem Ai7 (a:Array Operand) (b:Array TypeId):Ba (.call ⟨.builtin .min,a,b⟩)=true:=rfl
theorem Ai8 (a:Array Operand) (b:Array TypeId):Ba (.call ⟨.builtin .max,a,b⟩)=true:=rfl
theorem Ai9 (t:TypeId) (x:Operand):Ba (.box t x)=false:=rfl
theorem Ws (t:TypeId):Ba (.alloc t)=false:=rfl
theorem Wt (t:TypeId) (x y:Operand):Ba (.store t x y)=false:=rfl
theorem Ly (t:TypeId) (n:Nat) (ps:Array (Nat × Operand)):Ba (.buildSlice t n ps)=false:=rfl
theorem MY (t:TypeId) (x y:Operand):Ba (.makeSlice t x y)=false:=rfl
theorem SL (a:Array Operand) (b:Array TypeId):Ba (.call ⟨.builtin .append,a,b⟩)=false:=rfl
end
def DO:List (Nat × (List AV→Option AV))→Nat→Bool
 | [],_=>false
 | (g,_)::r,f=>if f=g then true else DO r f
def pl:List (Nat × (List AV→Option AV))→Nat→List AV→Option AV
 | [],_,_=>none
 | (g,F)::r,f,a=>if f=g then F a else pl r f a
def YE (l:List (Nat × (List AV→Option AV))):Env:=⟨DO l,pl l,fun _ _ _ _=>none,false,fun _=>none,fun _=>false⟩
theorem Wu (l:List (Nat × (List AV→Option AV))):(YE l).lit=false:=rfl
theorem SM (l:List (Nat × (List AV→Option AV))) (i:Nat):(YE l).perm i=none:=rfl
theorem Wv (l:List (Nat × (List AV→Option AV))) (f:Nat):(YE l).isP f=DO l f:=rfl
theorem Qs (l:List (Nat × (List AV→Option AV))) (f:Nat) (a:List AV):(YE l).pcall f a=pl l f a:=rfl
def DC (P:Program) (g:Nat) (F:List AV→Option AV):Prop:=∀ args r,F args=some r→C0 P g args r
inductive POks (P:Program):List (Nat × (List AV→Option AV))→Prop
 | nil:POks P []
 | cons {g F r} (h:DC P g F) (t:POks P r):POks P ((g,F)::r)
theorem MZ {P:Program} {l:List (Nat × (List AV→Option AV))} (h:POks P l):EnvOk P (YE l) where
 p f args r he:=by
  simp only [YE] at he
  induction h with
  | nil=>simp [pl] at he
  | @cons g F l h t ih=>
   simp only [pl] at he
   split at he
   ·rename_i hh; subst hh; exact h args r he
   ·exact ih he
 h f args H cnt r H' cnt' he:=by simp [YE] at he
theorem Aia {c p q:Prop} [Decidable c] (h:c→p) (h':¬ c→q):if c then p else q:=by split <;> simp_all
end Go.SX
namespace Go.SX
def M0:List AV→List AV→Prop
 | [],[]=>True
 | a::T,b::T'=>(b=.jk∨a=b)∧M0 T T'
 | _,_=>False
theorem SN:M0 [] []=True:=rfl
theorem Qt (a b:AV) (T T':List AV):M0 (a::T) (b::T')=((b=.jk∨a=b)∧M0 T T'):=rfl
theorem Qu:∀ {T T':List AV},M0 T T'→T.length=T'.length∧∀ (i:Nat) (b:AV),T'[i]?=some b→b=.jk∨T[i]?=some b
 | [],[],_=>⟨rfl,fun i b h=>by simp at h⟩
 | a::T,b::T',h=>by
  obtain ⟨h1,h2⟩:=h
  obtain ⟨e1,e2⟩:=Qu h2
  refine ⟨by simp [e1],fun i c hc=>?_⟩
  cases i with
  | zero=>
   simp at hc ⊢
   subst hc
   exact h1
  | succ i=>simp at hc ⊢; exact e2 i c hc
 | [],_::_,h=>h.elim
 | _::_,[],h=>h.elim
def I3:List Blk→List Blk→Prop
 | _,[]=>True
 | [],b::H'=>b.live=false∧I3 [] H'
 | a::H,b::H'=>(b.live=false∨a=b)∧I3 H H'
theorem SO (H:List Blk):I3 H []=True:=by cases H <;> rfl
theorem Qv (a b:Blk) (H H':List Blk):I3 (a::H) (b::H')=((b.live=false∨a=b)∧I3 H H'):=rfl
theorem LS:∀ {H H':List Blk},I3 H H'→∀ (i:Nat) (b:Blk),H'[i]?=some b→b.live=true→H[i]?=some b
 | _,[],_,i,b,h,_=>by simp at h
 | [],b::H',h,i,c,hc,hl=>by
  cases i with
  | zero=>simp at hc; subst hc; rw [h.1] at hl; cases hl
  | succ i=>simp at hc; have:=LS h.2 i c hc hl; simp at this
 | a::H,b::H',h,i,c,hc,hl=>by
  cases i with
  | zero=>
   simp at hc ⊢; subst hc
   rcases h.1 with h1 | h1
   ·rw [h1] at hl; cases hl
   ·exact h1
  | succ i=>simp at hc ⊢; exact LS h.2 i c hc hl
section
variable {P:Program} {E:Env} {n0:Nat} {rs:List ResultVar} {R:AV→St→Prop}
theorem Ao {k:List Item} {T T':List AV} {H H':List Blk} {c c':Nat} (hT:M0 T T') (hH:I3 H H') (hc:c≤c') (h:Go P E n0 rs R k ⟨T',H',c'⟩):Go P E n0 rs R k ⟨T,H,c⟩:=by
 refine .ghost (s':=⟨T',H',c'⟩) (fun w X loc a hs=>?_) h
 obtain ⟨h1,h2,h3⟩:=hs
 obtain ⟨g1,g2⟩:=R8 (H':=H') (cnt':=c') h1 (LS hH) hc
 refine ⟨X,loc,⟨g1,?_,h3⟩,fun w0 X0 Cq _ he=>he.trans g2⟩
 obtain ⟨e1,e2⟩:=Qu hT
 refine ⟨e1.symm.trans h2.1,fun i b v hb hv=>?_⟩
 rcases e2 i b hb with rfl | hb'
 ·exact .jk
 ·exact (h2.2 i b v hb' hv).mono g2 h1
theorem An6 {σ:Type} (I:σ→Nat→St) (Inv:σ→Prop) (μ:σ→Nat) {c:Code} {k:List Item}
  (hb:∀ x cnt,Inv x→(∀ x' cnt',Inv x'→μ x' < μ x→Go P E n0 rs R (.inLoop c::k) (I x' cnt'))→Go P E n0 rs R (.code c::.inLoop c::k) (I x cnt))
  (x:σ) (cnt:Nat) (h:Inv x):Go P E n0 rs R (.code (.loop c)::k) (I x cnt):=by
 have:∀ n x cnt,μ x < n→Inv x→Go P E n0 rs R (.code c::.inLoop c::k) (I x cnt):=by
  intro n
  induction n with
  | zero=>intro x cnt h; omega
  | succ n ih=>intro x cnt h h'; exact hb x cnt h' (fun x' cnt' h1 h2=>.inLoop (ih x' cnt' (by omega) h1))
 exact .loop (this _ x cnt (Ir _) h)
theorem Al {σ:Type} (I:σ→Nat→St) (Inv:σ→Prop) (μ:σ→Nat) (x:σ) {c:Code} {k:List Item} {T:List AV} {H:List Blk} {cnt:Nat}
  (h:Inv x) (hw:M0 T (I x cnt).T) (hh:I3 H (I x cnt).H) (hcn:(I x cnt).cnt=cnt)
  (hb:∀ x cnt,Inv x→(∀ x' cnt',Inv x'→μ x' < μ x→Go P E n0 rs R (.inLoop c::k) (I x' cnt'))→Go P E n0 rs R (.code c::.inLoop c::k) (I x cnt)):
  Go P E n0 rs R (.code (.loop c)::k) ⟨T,H,cnt⟩:=
 Ao hw hh (Nat.le_of_eq hcn.symm) (An6 I Inv μ hb x cnt h)
end
theorem Eg {x:Int} (h:0≤x) (h':x < 18446744073709551616):IntKind.u64.wrap x=x:=by
 exact Aro
theorem KS {x:Int} (h:0≤x) (h':x < 4294967296):IntKind.u32.wrap x=x:=by
 exact Aro
def Dj:Nat→List (Nat × AV)→AV
 | _,[]=>.jk
 | i,(j,v)::l=>if i=j then v else Dj i l
def Bn:Nat→Nat→List (Nat × AV)→List AV
 | _,0,_=>[]
 | i,n+1,l=>Dj i l::Bn (i+1) n l
end Go.SX
