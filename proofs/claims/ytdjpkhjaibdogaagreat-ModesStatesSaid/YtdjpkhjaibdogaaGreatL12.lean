/-
  Joined texts: SXB.
  Conditions: none.
-/
import Derived.Test.YtdjpkhjaibdogaaGreatL11
namespace Go.SX
set_option linter.unusedSimpArgs false
set_option linter.unusedVariables false
open Go.RowKit (Below)
inductive Vc (P:Program) (E:Env) (n0:Nat) (rs:List ResultVar) (R:AV→St→Prop):List Item→St→Prop
 | ret {k s vs} (h:retVal P s rs=some vs) (hR:R (retOne vs) s):Vc P E n0 rs R (.code .ret::k) s
 | fin {s vs} (h:retVal P s rs=some vs) (hR:R (retOne vs) s):Vc P E n0 rs R [] s
 | skip {k s} (h:Vc P E n0 rs R k s):Vc P E n0 rs R (.code .skip::k) s
 | seq {k s x y} (h:Vc P E n0 rs R (.code x::.code y::k) s):Vc P E n0 rs R (.code (.seq x y)::k) s
 | cond {k s c x y} (t:Bool) (hc:ev s.T c=.sc (.bool t)) (h:Vc P E n0 rs R (.code (if t=true then x else y)::k) s):Vc P E n0 rs R (.code (.cond c x y)::k) s
 | block {k s id c} (h:Vc P E n0 rs R (.code c::.inBlock id::k) s):Vc P E n0 rs R (.code (.block id c)::k) s
 | inBlock {k s id} (h:Vc P E n0 rs R k s):Vc P E n0 rs R (.inBlock id::k) s
 | loop {k s c} (h:Go P E n0 rs R (.code (.loop c)::k) s):Vc P E n0 rs R (.code (.loop c)::k) s
 | inLoop {k s c} (h:Go P E n0 rs R (.inLoop c::k) s):Vc P E n0 rs R (.inLoop c::k) s
 | exit {k k' s id} (he:exitTo id k=some k') (h:Vc P E n0 rs R k' s):Vc P E n0 rs R (.code (.exit id)::k) s
 | region {k s s' id ops} (hr:runOps P E ops ops.toList s=some s') (h:Vc P E n0 rs R k s'):Vc P E n0 rs R (.code (.region id ops false)::k) s
 | draw {k s s' id ops} (hpm:E.perm id=none) (hr:runDP P E ops (·=s') ops.toList 0 s [] []) (h:Vc P E n0 rs R k s'):Vc P E n0 rs R (.code (.region id ops true)::k) s
 | drawP {k s s' id ops i π} (hpm:E.perm id=some (i::π)) (hr:runDP P E (permA ops (i::π)) (·=s') (permA ops (i::π)).toList 0 s [] []) (h:Vc P E n0 rs R k s'):Vc P E n0 rs R (.code (.region id ops true)::k) s
 | sem {k s id ops} (hpm:E.perm id=some []) (h:Go P E n0 rs R (.code (.region id ops true)::k) s):Vc P E n0 rs R (.code (.region id ops true)::k) s
section
variable {P:Program} {E:Env} {n0:Nat} {rs:List ResultVar} {R:AV→St→Prop}
theorem vc_go {k s} (h:Vc P E n0 rs R k s):Go P E n0 rs R k s:=by
 induction h with
 | ret h hR=>exact .ret h hR
 | fin h hR=>exact .fin h hR
 | skip _ ih=>exact .skip ih
 | seq _ ih=>exact .seq ih
 | cond t hc _ ih=>exact .cond t hc ih
 | block _ ih=>exact .block ih
 | inBlock _ ih=>exact .inBlock ih
 | loop h=>exact h
 | inLoop h=>exact h
 | exit he _ ih=>exact .exit he ih
 | region hr _ ih=>exact .region hr ih
 | @draw k s s' id ops hpm hr _ ih=>
  cases hb:ops.toList.any heapish with
  | true=>exact .drawH hpm hb hr ih
  | false=>exact .draw hpm (pure_of_trace _ _ _ _ hb hr) ih
 | drawP hpm hr _ ih=>exact .drawP hpm hr ih
 | sem _ h=>exact h
def VcE (P:Program) (E:Env) (n0:Nat) (rs:List ResultVar) (R:AV→St→Prop) (s:St):Option (List Item)→Prop
 | some k=>Vc P E n0 rs R k s
 | none=>False
def VcC (P:Program) (E:Env) (n0:Nat) (rs:List ResultVar) (R:AV→St→Prop) (x y:Code) (k:List Item) (s:St):AV→Prop
 | .sc (.bool t)=>if t=true then Vc P E n0 rs R (.code x::k) s else Vc P E n0 rs R (.code y::k) s
 | _=>False
def VcO (P:Program) (E:Env) (n0:Nat) (rs:List ResultVar) (R:AV→St→Prop) (all:Array Oper) (r:List Oper) (k:List Item) (s:St):Prop:=
 ∃ s',runOps P E all r s=some s'∧Vc P E n0 rs R k s'
def VcS (P:Program) (E:Env) (n0:Nat) (rs:List ResultVar) (R:AV→St→Prop) (all:Array Oper) (r:List Oper) (k:List Item) (s:Option St):Prop:=
 ∃ s1,s=some s1∧VcO P E n0 rs R all r k s1
def VcR (R:AV→St→Prop) (s:St):Option (List AV)→Prop
 | some vs=>R (retOne vs) s
 | none=>False
variable {k:List Item} {s:St} {id:Nat}
theorem vc_ret:Vc P E n0 rs R (.code .ret::k) s=VcR R s (retVal P s rs):=by
 apply propext; constructor
 ·intro h; cases h with | ret h hR=>rw [h]; exact hR
 ·intro h
  cases hv:retVal P s rs with
  | none=>rw [hv] at h; exact h.elim
  | some vs=>rw [hv] at h; exact .ret hv h
theorem vc_nil:Vc P E n0 rs R [] s=VcR R s (retVal P s rs):=by
 apply propext; constructor
 ·intro h; cases h with | fin h hR=>rw [h]; exact hR
 ·intro h
  cases hv:retVal P s rs with
  | none=>rw [hv] at h; exact h.elim
  | some vs=>rw [hv] at h; exact .fin hv h
theorem vcR_some (vs:List AV):VcR R s (some vs)=R (retOne vs) s:=rfl
theorem vc_skip:Vc P E n0 rs R (.code .skip::k) s=Vc P E n0 rs R k s:=propext ⟨fun h=>by cases h; assumption,.skip⟩
theorem vc_seq (x y:Code):Vc P E n0 rs R (.code (.seq x y)::k) s=Vc P E n0 rs R (.code x::.code y::k) s:=propext ⟨fun h=>by cases h; assumption,.seq⟩
theorem vc_block (id:Nat) (c:Code):Vc P E n0 rs R (.code (.block id c)::k) s=Vc P E n0 rs R (.code c::.inBlock id::k) s:=propext ⟨fun h=>by cases h; assumption,.block⟩
theorem vc_inBlock (id:Nat):Vc P E n0 rs R (.inBlock id::k) s=Vc P E n0 rs R k s:=propext ⟨fun h=>by cases h; assumption,.inBlock⟩
theorem vc_loop (c:Code):Vc P E n0 rs R (.code (.loop c)::k) s=Go P E n0 rs R (.code (.loop c)::k) s:=propext ⟨fun h=>by cases h; assumption,.loop⟩
theorem vc_inLoop (c:Code):Vc P E n0 rs R (.inLoop c::k) s=Go P E n0 rs R (.inLoop c::k) s:=propext ⟨fun h=>by cases h; assumption,.inLoop⟩
theorem vc_exit (id:Nat):Vc P E n0 rs R (.code (.exit id)::k) s=VcE P E n0 rs R s (exitTo id k):=by
 apply propext; constructor
 ·intro h; cases h with | exit he h=>rw [he]; exact h
 ·intro h
  cases hv:exitTo id k with
  | none=>rw [hv] at h; exact h.elim
  | some k'=>rw [hv] at h; exact .exit hv h
theorem vcE_some (k:List Item):VcE P E n0 rs R s (some k)=Vc P E n0 rs R k s:=rfl
theorem exitTo_hit (id:Nat) (k:List Item):exitTo id (.inBlock id::k)=some k:=by simp [exitTo]
theorem exitTo_miss (id i:Nat) (k:List Item) (h:(i == id)=false):exitTo id (.inBlock i::k)=exitTo id k:=by simp [exitTo,h]
theorem exitTo_code (id:Nat) (c:Code) (k:List Item):exitTo id (.code c::k)=exitTo id k:=rfl
theorem exitTo_inLoop (id:Nat) (c:Code) (k:List Item):exitTo id (.inLoop c::k)=exitTo id k:=rfl
theorem vc_cond (c:Operand) (x y:Code):Vc P E n0 rs R (.code (.cond c x y)::k) s=VcC P E n0 rs R x y k s (ev s.T c):=by
 apply propext; constructor
 ·intro h
  cases h with
  | cond t hc h=>
   rw [hc]
   cases t
   ·exact h
   ·exact h
 ·intro h
  generalize hv:ev s.T c=v at h
  cases v with
  | sc u=>
   cases u with
   | bool t=>
    refine .cond t hv ?_
    cases t
    ·exact h
    ·exact h
   | _=>exact h.elim
  | _=>exact h.elim
theorem vcC_bool (x y:Code) (t:Bool):VcC P E n0 rs R x y k s (.sc (.bool t))=if t=true then Vc P E n0 rs R (.code x::k) s else Vc P E n0 rs R (.code y::k) s:=rfl
theorem vc_region (id:Nat) (ops:Array Oper):Vc P E n0 rs R (.code (.region id ops false)::k) s=VcO P E n0 rs R ops ops.toList k s:=by
 apply propext; constructor
 ·intro h; cases h with | region hr h=>exact ⟨_,hr,h⟩
 ·rintro ⟨s',hr,h⟩; exact .region hr h
theorem vc_draw (hpm:E.perm id=none) (ops:Array Oper):Vc P E n0 rs R (.code (.region id ops true)::k) s=runDP P E ops (Vc P E n0 rs R k) ops.toList 0 s [] []:=by
 apply propext; constructor
 ·intro h
  cases h with
  | draw _ hr h=>exact (runDP_end _ _ _ _ _).2 ⟨_,hr,h⟩
  | drawP hpm' hr h=>rw [hpm] at hpm'; cases hpm'
  | sem hpm' h=>rw [hpm] at hpm'; cases hpm'
 ·intro h
  obtain ⟨s1,h1,h2⟩:=(runDP_end _ _ _ _ _).1 h
  exact .draw hpm h1 h2
theorem vcO_nil (all:Array Oper):VcO P E n0 rs R all [] k s=Vc P E n0 rs R k s:=by
 apply propext; constructor
 ·rintro ⟨s',h,h2⟩; simp only [runOps,Option.some.injEq] at h; subst h; exact h2
 ·intro h; exact ⟨s,rfl,h⟩
theorem vcO_cons' (all:Array Oper) (o:Oper) (r:List Oper):VcO P E n0 rs R all (o::r) k s=VcS P E n0 rs R all r k (opM E.lit o (opStep P E all s o) (litStep P s o.op o.dst)):=by
 apply propext; constructor
 ·rintro ⟨s',h,h2⟩
  simp only [runOps] at h
  split at h
  ·rename_i s1 h1; exact ⟨s1,h1,s',h,h2⟩
  ·cases h
 ·rintro ⟨s1,h1,s',h,h2⟩
  have h1':opStepM P E all s o=some s1:=h1
  exact ⟨s',by simp only [runOps,h1']; exact h,h2⟩
theorem vcO_cons (hl:E.lit=false) (all:Array Oper) (o:Oper) (r:List Oper):VcO P E n0 rs R all (o::r) k s=VcS P E n0 rs R all r k (opStep P E all s o):=by
 rw [vcO_cons',hl]; rfl
theorem vcO_consL (hl:E.lit=true) (all:Array Oper) (o:Oper) (r:List Oper):VcO P E n0 rs R all (o::r) k s=VcS P E n0 rs R all r k (opM true o (opStep P E all s o) (litStep P s o.op o.dst)):=by
 rw [vcO_cons',hl]
theorem opM_b (d:Option Nat) (t:TypeId) (n:Nat) (ps:Array (Nat × Operand)) (ty:TypeId) (pos:String) (af:Array Edge) (x y:Option St):opM true ⟨d,.buildSlice t n ps,ty,pos,af,none⟩ x y=y:=by simp [opM,litOp]
theorem litStep_eq (P:Program) (s:St) (op:Op) (d:Option Nat):litStep P s op d=litR s d (hstep P s op d):=rfl
theorem litR_some (T T':List AV) (H H':List Blk) (c c':Nat) (d:Option Nat) (h:norefs (lastEls H')=true):litR ⟨T,H,c⟩ d (some ⟨T',H',c'⟩)=some (St.put ⟨T,H,c+1⟩ d (.vw false (lastEls H'))):=by simp [litR,h]
theorem vcS_some (all:Array Oper) (r:List Oper) (s:St):VcS P E n0 rs R all r k (some s)=VcO P E n0 rs R all r k s:=by
 apply propext; constructor
 ·rintro ⟨s1,h,h2⟩; cases h; exact h2
 ·intro h; exact ⟨s,rfl,h⟩
end
theorem retVal_nil (P:Program) (s:St):retVal P s []=some []:=rfl
theorem retVal_tmp (P:Program) (s:St) (t:Nat) (r:List ResultVar):retVal P s (.tmp t::r)=(retVal P s r).map (s.T.getD t .un::·):=rfl
def retC (v:Option AV) (r:Option (List AV)):Option (List AV):=
 match v with
 | some v=>r.map (v::·)
 | none=>none
theorem retVal_cell (P:Program) (s:St) (t ty:Nat) (r:List ResultVar):retVal P s (.cell t ty::r)=retC (rval P s (.load ty (.tmp t))) (retVal P s r):=rfl
theorem retC_some (v:AV) (r:List AV):retC (some v) (some r)=some (v::r):=rfl
theorem retOne_one (v:AV):retOne [v]=v:=rfl
theorem retOne_two (v u:AV) (l:List AV):retOne (v::u::l)=.tu (v::u::l):=rfl
section
variable {P:Program} {E:Env} {all:Array Oper} {s:St} {d:Option Nat} {ty:TypeId} {pos:String} {af:Array Edge}
def gP (s:St) (d:Option Nat) (want:Bool) (v:Option AV):AV→Option St
 | .sc (.bool b)=>(if b=want then v else some .un).map (s.put d)
 | .un=>some (s.put d .un)
 | _=>none
def gH (s:St) (d:Option Nat) (want:Bool) (v:Option St):AV→Option St
 | .sc (.bool b)=>if b=want then v else some (s.put d .un)
 | .un=>some (s.put d .un)
 | _=>none
def oV (s:St) (d:Option Nat) (v:Option AV):Option St:=v.map (s.put d)
theorem oV_some (v:AV):oV s d (some v)=some (s.put d v):=rfl
theorem gP_bool (want:Bool) (v:Option AV) (b:Bool):gP s d want v (.sc (.bool b))=oV s d (if b=want then v else some .un):=rfl
theorem gP_un (want:Bool) (v:Option AV):gP s d want v .un=some (s.put d .un):=rfl
theorem gH_bool (want:Bool) (v:Option St) (b:Bool):gH s d want v (.sc (.bool b))=if b=want then v else some (s.put d .un):=rfl
theorem gP_ite (want:Bool) (v:Option AV) (c:Prop) [Decidable c] (b:Bool):gP s d want v (if c then .sc (.bool b) else .un)=oV s d (if c∧b=want then v else some .un):=by
 by_cases h:c <;> simp [h,gP,oV]
theorem ite_some {α:Type} (c:Prop) [Decidable c] (a b:α):(if c then some a else some b)=some (if c then a else b):=by split <;> rfl
theorem ite_bool (c:Prop) [Decidable c] (a b:Bool):(if c then AV.sc (.bool a) else AV.sc (.bool b))=AV.sc (.bool (if c then a else b)):=by split <;> rfl
theorem ite_and (a b:Bool):(if a=true then b else false)=(a && b):=by cases a <;> rfl
theorem ite_or (a b:Bool):(if a=true then true else b)=(a || b):=by cases a <;> rfl
theorem os_pure (op:Op) (h1:isCall op=false) (h2:isHeapOp op=false):opStep P E all s ⟨d,op,ty,pos,af,none⟩=oV s d (rval P s op):=by
 simp [opStep,isPure,h1,h2,pval,oV]
theorem os_pureG (op:Op) (h1:isCall op=false) (h2:isHeapOp op=false) (j:Nat) (want:Bool):opStep P E all s ⟨d,op,ty,pos,af,some (j,want)⟩=gP s d want (rval P s op) (guardV all s j):=by
 simp only [opStep,isPure,h1,h2,pval,gP]
 simp only [Bool.false_eq_true,if_false,Bool.not_false,if_true]
 generalize guardV all s j=g
 cases g with
 | sc v=>cases v <;> rfl
 | _=>rfl
theorem os_heap (op:Op) (h1:isCall op=false) (h2:isHeapOp op=true):opStep P E all s ⟨d,op,ty,pos,af,none⟩=hstep P s op d:=by
 simp [opStep,isPure,h1,h2,hval]
def callP (E:Env) (s:St) (d:Option Nat) (b:Bool) (g:Nat) (args:List AV):Option St:=
 if b=true then oV s d (E.pcall g (borrows s.H args)) else
  match E.hcall g args s.H s.cnt with
  | some (r,H',cnt')=>some (St.put { s with H:=H',cnt:=cnt' } d r)
  | none=>none
def callA (E:Env) (s:St) (d:Option Nat) (args:List AV):AV→Option St
 | .fn g caps=>callP E s d (E.isP g) g (args++caps)
 | _=>none
theorem callA_fn (args:List AV) (g:Nat) (caps:List AV):callA E s d args (.fn g caps)=callP E s d (E.isP g) g (args++caps):=rfl
theorem callP_t (g:Nat) (args:List AV):callP E s d true g args=oV s d (E.pcall g (borrows s.H args)):=by simp [callP]
def hres (s:St) (d:Option Nat):Option (AV × List Blk × Nat)→Option St
 | some (r,H',cnt')=>some (St.put { s with H:=H',cnt:=cnt' } d r)
 | none=>none
theorem callP_f (g:Nat) (args:List AV):callP E s d false g args=hres s d (E.hcall g args s.H s.cnt):=by
 simp only [callP,hres,Bool.false_eq_true,if_false]
theorem hres_some (T:List AV) (H H':List Blk) (c c':Nat) (r:AV):hres ⟨T,H,c⟩ d (some (r,H',c'))=some (St.put ⟨T,H',c'⟩ d r):=rfl
theorem os_call (f:Operand) (args:Array Operand) (ats:Array TypeId):opStep P E all s ⟨d,.call ⟨.value f,args,ats⟩,ty,pos,af,none⟩=callA E s d (args.toList.map (ev s.T)) (ev s.T f):=by
 simp only [opStep,isPure,isCall,if_true,pval,hval,target]
 generalize ev s.T f=v
 cases v with
 | fn g caps=>
  simp only [callA,callP,borrows_map]
  cases E.isP g
  ·simp only [Bool.false_eq_true,if_false]
   generalize E.hcall g (List.map (ev s.T) args.toList++caps) s.H s.cnt=hh
   cases hh with
   | none=>rfl
   | some p=>rfl
  ·rfl
 | _=>rfl
def callGA (E:Env) (s:St) (d:Option Nat) (want:Bool) (args:List AV) (g:AV):AV→Option St
 | .fn f caps=>if E.isP f=true then gP s d want (E.pcall f (borrows s.H (args++caps))) g else gH s d want (callP E s d false f (args++caps)) g
 | _=>gP s d want none g
theorem callGA_fn (want:Bool) (args:List AV) (g:AV) (f:Nat) (caps:List AV):
  callGA E s d want args g (.fn f caps)=if E.isP f=true then gP s d want (E.pcall f (borrows s.H (args++caps))) g else gH s d want (callP E s d false f (args++caps)) g:=rfl
theorem os_callG (f:Operand) (args:Array Operand) (ats:Array TypeId) (j:Nat) (want:Bool):
  opStep P E all s ⟨d,.call ⟨.value f,args,ats⟩,ty,pos,af,some (j,want)⟩=callGA E s d want (args.toList.map (ev s.T)) (guardV all s j) (ev s.T f):=by
 simp only [opStep,isPure,isCall,if_true,pval,hval,target]
 generalize ev s.T f=v
 generalize guardV all s j=g
 cases v with
 | fn h caps=>
  simp only [callGA,callP,borrows_map]
  cases E.isP h
  ·simp only [Bool.false_eq_true,if_false,gH]
   generalize E.hcall h (List.map (ev s.T) args.toList++caps) s.H s.cnt=hh
   cases g with
   | sc v=>
    cases v with
    | bool b=>cases hh <;> rfl
    | _=>rfl
   | _=>rfl
  ·simp only [if_true,gP]
   cases g with
   | sc v=>cases v <;> rfl
   | _=>rfl
 | _=>
  simp only [callGA,gP]
  cases g with
  | sc v=>cases v <;> rfl
  | _=>rfl
theorem os_move (x:Operand):opStep P E all s ⟨d,.move x,ty,pos,af,none⟩=oV s d (rval P s (.move x)):=os_pure _ rfl rfl
theorem os_move_g (x:Operand) (j:Nat) (want:Bool):opStep P E all s ⟨d,.move x,ty,pos,af,some (j,want)⟩=gP s d want (rval P s (.move x)) (guardV all s j):=os_pureG _ rfl rfl j want
theorem os_assign (x:Operand):opStep P E all s ⟨d,.assign x,ty,pos,af,none⟩=oV s d (rval P s (.assign x)):=os_pure _ rfl rfl
theorem os_pick (c a b:Operand):opStep P E all s ⟨d,.pick c a b,ty,pos,af,none⟩=oV s d (rval P s (.pick c a b)):=os_pure _ rfl rfl
theorem os_pick_g (c a b:Operand) (j:Nat) (want:Bool):opStep P E all s ⟨d,.pick c a b,ty,pos,af,some (j,want)⟩=gP s d want (rval P s (.pick c a b)) (guardV all s j):=os_pureG _ rfl rfl j want
theorem os_load (t:TypeId) (x:Operand):opStep P E all s ⟨d,.load t x,ty,pos,af,none⟩=oV s d (rval P s (.load t x)):=os_pure _ rfl rfl
theorem os_load_g (t:TypeId) (x:Operand) (j:Nat) (want:Bool):opStep P E all s ⟨d,.load t x,ty,pos,af,some (j,want)⟩=gP s d want (rval P s (.load t x)) (guardV all s j):=os_pureG _ rfl rfl j want
theorem os_nilCheck (x:Operand):opStep P E all s ⟨d,.nilCheck x,ty,pos,af,none⟩=oV s d (rval P s (.nilCheck x)):=os_pure _ rfl rfl
theorem os_binOp (op:BinOp) (t:TypeId) (x y:Operand) (t':TypeId):opStep P E all s ⟨d,.binOp op t x y t',ty,pos,af,none⟩=oV s d (rval P s (.binOp op t x y t')):=os_pure _ rfl rfl
theorem os_binOp_g (op:BinOp) (t:TypeId) (x y:Operand) (t':TypeId) (j:Nat) (want:Bool):opStep P E all s ⟨d,.binOp op t x y t',ty,pos,af,some (j,want)⟩=gP s d want (rval P s (.binOp op t x y t')) (guardV all s j):=os_pureG _ rfl rfl j want
theorem os_unOp (op:UnOp) (t:TypeId) (x:Operand):opStep P E all s ⟨d,.unOp op t x,ty,pos,af,none⟩=oV s d (rval P s (.unOp op t x)):=os_pure _ rfl rfl
theorem os_unOp_g (op:UnOp) (t:TypeId) (x:Operand) (j:Nat) (want:Bool):opStep P E all s ⟨d,.unOp op t x,ty,pos,af,some (j,want)⟩=gP s d want (rval P s (.unOp op t x)) (guardV all s j):=os_pureG _ rfl rfl j want
theorem os_convert (t t':TypeId) (x:Operand):opStep P E all s ⟨d,.convert t t' x,ty,pos,af,none⟩=oV s d (rval P s (.convert t t' x)):=os_pure _ rfl rfl
theorem os_convert_g (t t':TypeId) (x:Operand) (j:Nat) (want:Bool):opStep P E all s ⟨d,.convert t t' x,ty,pos,af,some (j,want)⟩=gP s d want (rval P s (.convert t t' x)) (guardV all s j):=os_pureG _ rfl rfl j want
theorem os_makeFunc (f:Fn) (a b:Array Operand):opStep P E all s ⟨d,.makeFunc f a b,ty,pos,af,none⟩=oV s d (rval P s (.makeFunc f a b)):=os_pure _ rfl rfl
theorem os_makeFunc_g (f:Fn) (a b:Array Operand) (j:Nat) (want:Bool):opStep P E all s ⟨d,.makeFunc f a b,ty,pos,af,some (j,want)⟩=gP s d want (rval P s (.makeFunc f a b)) (guardV all s j):=os_pureG _ rfl rfl j want
theorem os_slice (t:TypeId) (x:Operand) (a b c:Option Operand):opStep P E all s ⟨d,.slice t x a b c,ty,pos,af,none⟩=oV s d (rval P s (.slice t x a b c)):=os_pure _ rfl rfl
theorem os_fieldAddr (t:TypeId) (x:Operand) (f:Nat):opStep P E all s ⟨d,.fieldAddr t x f,ty,pos,af,none⟩=oV s d (rval P s (.fieldAddr t x f)):=os_pure _ rfl rfl
theorem os_fieldAddr_g (t:TypeId) (x:Operand) (f:Nat) (j:Nat) (want:Bool):opStep P E all s ⟨d,.fieldAddr t x f,ty,pos,af,some (j,want)⟩=gP s d want (rval P s (.fieldAddr t x f)) (guardV all s j):=os_pureG _ rfl rfl j want
theorem os_indexAddr (t:TypeId) (x y:Operand):opStep P E all s ⟨d,.indexAddr t x y,ty,pos,af,none⟩=oV s d (rval P s (.indexAddr t x y)):=os_pure _ rfl rfl
theorem os_indexAddr_g (t:TypeId) (x y:Operand) (j:Nat) (want:Bool):opStep P E all s ⟨d,.indexAddr t x y,ty,pos,af,some (j,want)⟩=gP s d want (rval P s (.indexAddr t x y)) (guardV all s j):=os_pureG _ rfl rfl j want
theorem os_index (t:TypeId) (x y:Operand):opStep P E all s ⟨d,.index t x y,ty,pos,af,none⟩=oV s d (rval P s (.index t x y)):=os_pure _ rfl rfl
theorem os_index_g (t:TypeId) (x y:Operand) (j:Nat) (want:Bool):opStep P E all s ⟨d,.index t x y,ty,pos,af,some (j,want)⟩=gP s d want (rval P s (.index t x y)) (guardV all s j):=os_pureG _ rfl rfl j want
theorem os_extract (x:Operand) (i:Nat):opStep P E all s ⟨d,.extract x i,ty,pos,af,none⟩=oV s d (rval P s (.extract x i)):=os_pure _ rfl rfl
theorem os_build (t:TypeId) (ps:Array (Nat × Operand)):opStep P E all s ⟨d,.build t ps,ty,pos,af,none⟩=oV s d (rval P s (.build t ps)):=os_pure _ rfl rfl
theorem os_len (a:Array Operand) (b:Array TypeId):opStep P E all s ⟨d,.call ⟨.builtin .len,a,b⟩,ty,pos,af,none⟩=oV s d (rval P s (.call ⟨.builtin .len,a,b⟩)):=os_pure _ rfl rfl
theorem os_len_g (a:Array Operand) (b:Array TypeId) (j:Nat) (want:Bool):opStep P E all s ⟨d,.call ⟨.builtin .len,a,b⟩,ty,pos,af,some (j,want)⟩=gP s d want (rval P s (.call ⟨.builtin .len,a,b⟩)) (guardV all s j):=os_pureG _ rfl rfl j want
theorem os_min (a:Array Operand) (b:Array TypeId):opStep P E all s ⟨d,.call ⟨.builtin .min,a,b⟩,ty,pos,af,none⟩=oV s d (rval P s (.call ⟨.builtin .min,a,b⟩)):=os_pure _ rfl rfl
theorem os_max (a:Array Operand) (b:Array TypeId):opStep P E all s ⟨d,.call ⟨.builtin .max,a,b⟩,ty,pos,af,none⟩=oV s d (rval P s (.call ⟨.builtin .max,a,b⟩)):=os_pure _ rfl rfl
theorem os_alloc (t:TypeId):opStep P E all s ⟨d,.alloc t,ty,pos,af,none⟩=hstep P s (.alloc t) d:=os_heap _ rfl rfl
theorem os_box (t:TypeId) (x:Operand):opStep P E all s ⟨d,.box t x,ty,pos,af,none⟩=hstep P s (.box t x) d:=os_heap _ rfl rfl
theorem os_buildSlice (t:TypeId) (n:Nat) (ps:Array (Nat × Operand)):opStep P E all s ⟨d,.buildSlice t n ps,ty,pos,af,none⟩=hstep P s (.buildSlice t n ps) d:=os_heap _ rfl rfl
theorem os_store (t:TypeId) (x y:Operand):opStep P E all s ⟨d,.store t x y,ty,pos,af,none⟩=hstep P s (.store t x y) d:=os_heap _ rfl rfl
theorem os_makeSlice (t:TypeId) (x y:Operand):opStep P E all s ⟨d,.makeSlice t x y,ty,pos,af,none⟩=hstep P s (.makeSlice t x y) d:=os_heap _ rfl rfl
theorem os_append (a:Array Operand) (b:Array TypeId):opStep P E all s ⟨d,.call ⟨.builtin .append,a,b⟩,ty,pos,af,none⟩=hstep P s (.call ⟨.builtin .append,a,b⟩) d:=os_heap _ rfl rfl
theorem ev_tmp (T:List AV) (t:Nat):ev T (.tmp t)=T.getD t .un:=rfl
theorem ev_func (T:List AV) (f:Nat):ev T (.func f)=.fn f []:=rfl
theorem ev_int (T:List AV) (k:IntKind) (n:Int):ev T (.const (.int k n))=.sc (.int k n):=rfl
theorem ev_bool (T:List AV) (b:Bool):ev T (.const (.bool b))=.sc (.bool b):=rfl
theorem ev_str (T:List AV) (b:ByteArray):ev T (.const (.string b))=.sc (.string b):=rfl
theorem ev_nil (T:List AV):ev T (.const (.slice none 0 0))=.vw true []:=rfl
theorem rval_move (x:Operand):rval P s (.move x)=some (ev s.T x):=rfl
theorem rval_assign (x:Operand):rval P s (.assign x)=some (ev s.T x):=rfl
def pickA (a b:AV):AV→Option AV
 | .sc (.bool t)=>some (if t=true then a else b)
 | _=>none
theorem rval_pick (c a b:Operand):rval P s (.pick c a b)=pickA (ev s.T a) (ev s.T b) (ev s.T c):=by
 simp only [rval,pickA]
 generalize ev s.T c=v
 cases v with
 | sc v=>cases v <;> rfl
 | _=>rfl
theorem pickA_bool (a b:AV) (t:Bool):pickA a b (.sc (.bool t))=some (if t=true then a else b):=rfl
def ldE (d:TyD) (off:Nat):Option AV→Option AV
 | some e=>takeT d e.cells off
 | none=>none
def ldB (d:TyD) (i off:Nat):Option Blk→Option AV
 | some B=>ldE d off B.els[i]?
 | none=>none
def ldV (d:TyD) (off:Nat):Option AV→Option AV
 | some e=>match takeT d e.cells off with
  | some v=>if v.noref=true then some v else none
  | none=>none
 | none=>none
def loadA (H:List Blk):Option TyD→AV→Option AV
 | some d,.pt id ver i off=>ldB d i off (liveB H id ver)
 | some d,.vp es i off=>ldV d off es[i]?
 | _,_=>none
theorem rval_load (t:TypeId) (x:Operand):rval P s (.load t x)=loadA s.H (tyD P t) (ev s.T x):=by
 simp only [rval,loadA,ldB,ldE,ldV]
 generalize ev s.T x=v
 generalize tyD P t=d
 cases d with
 | none=>rfl
 | some d=>cases v <;> rfl
theorem loadA_pt (H:List Blk) (d:TyD) (id ver i off:Nat):loadA H (some d) (.pt id ver i off)=ldB d i off (liveB H id ver):=rfl
theorem loadA_vp (H:List Blk) (d:TyD) (es:List AV) (i off:Nat):loadA H (some d) (.vp es i off)=ldV d off es[i]?:=rfl
theorem ldB_some (d:TyD) (i off:Nat) (B:Blk):ldB d i off (some B)=ldE d off B.els[i]?:=rfl
theorem ldE_some (d:TyD) (off:Nat) (e:AV):ldE d off (some e)=takeT d e.cells off:=rfl
def ldW:Option AV→Option AV
 | some v=>if v.noref=true then some v else none
 | none=>none
theorem ldV_some (d:TyD) (off:Nat) (e:AV):ldV d off (some e)=ldW (takeT d e.cells off):=rfl
theorem ldW_some (v:AV):ldW (some v)=if v.noref=true then some v else none:=rfl
theorem takeT_agg (sz bytes:Nat) (zero el len fl) (cs:List AV) (off:Nat):takeT ⟨true,sz,bytes,zero,el,len,fl⟩ cs off=if off+sz≤cs.length then some (.ag ((cs.drop off).take sz)) else none:=rfl
theorem takeT_one (sz bytes:Nat) (zero el len fl) (cs:List AV) (off:Nat):takeT ⟨false,sz,bytes,zero,el,len,fl⟩ cs off=cs[off]?:=rfl
theorem cells_ag (cs:List AV):AV.cells (.ag cs)=cs:=rfl
theorem cells_sc (v:Value):AV.cells (.sc v)=[.sc v]:=rfl
theorem cells_vw (z:Bool) (es:List AV):AV.cells (.vw z es)=[.vw z es]:=rfl
theorem cells_sl (a b c d:Nat):AV.cells (.sl a b c d)=[.sl a b c d]:=rfl
theorem norefs_cons (a:AV) (r:List AV):norefs (a::r)=(a.noref && norefs r):=by simp [norefs]
def binA (P:Program) (op:BinOp) (t:TypeId) (x y:Operand) (u v:AV):Option AV:=
 match conc u,conc v with
 | some a,some b=>match spure P (do eqGuard op t x y a b; binOp op t a b) with
  | some v=>some (ofV v)
  | none=>none
 | _,_=>nilB P op t u y
theorem rval_binOp (op:BinOp) (t t':TypeId) (x y:Operand):rval P s (.binOp op t x y t')=binA P op t x y (nilV s.H (ev s.T x)) (ev s.T y):=rfl
theorem nilV_sc (H:List Blk) (v:Value):nilV H (.sc v)=.sc v:=rfl
theorem nilV_ag (H:List Blk) (l:List AV):nilV H (.ag l)=.ag l:=rfl
theorem nilV_vw (H:List Blk) (z:Bool) (l:List AV):nilV H (.vw z l)=.vw z l:=rfl
theorem bin_nil_eql (t:TypeId) (x:Operand) (u:AV):binA P .eql t x (.const (.slice none 0 0)) u (.vw true [])=nilR .eql (isSlT P t) (isNilA u):=by
 unfold binA
 cases conc u <;> rfl
theorem nilR_eql (b:Bool):nilR .eql true (some b)=some (.sc (.bool b)):=rfl
theorem isNil_vw (z:Bool) (e:AV) (l:List AV):isNilA (.vw z (e::l))=some false:=rfl
theorem isNil_no (l c:Nat):isNilA (.sc (.slice none l c))=some true:=rfl
theorem isNil_so (a:Addr) (l c:Nat):isNilA (.sc (.slice (some a) l c))=some false:=rfl
theorem spure_bin {op:BinOp} {t:TypeId} {x y:Operand} {k k':IntKind} {a b:Int} {v:Value} (h:rd P (binOp op t (.int k a) (.int k' b)) default=some v):
  spure P (do eqGuard op t x y (.int k a) (.int k' b); binOp op t (.int k a) (.int k' b))=some v:=by
 unfold spure
 rw [rd_bind]
 have:rd P (eqGuard op t x y (.int k a) (.int k' b)) default=some ():=by
  unfold eqGuard
  split <;> rfl
 rw [this]
 exact h
section
variable (t:TypeId) (x y:Operand) (k:IntKind) (a b:Int)
theorem bin_of {op:BinOp} {k k':IntKind} {v:Value} (h:rd P (binOp op t (.int k a) (.int k' b)) default=some v):binA P op t x y (.sc (.int k a)) (.sc (.int k' b))=some (ofV v):=by
 simp only [binA,conc,spure_bin h]
theorem bin_add:binA P .add t x y (.sc (.int k a)) (.sc (.int k b))=some (.sc (.int k (k.wrap (a+b)))):=bin_of _ _ _ _ _ (v:=.int k (k.wrap (a+b))) (by simp [binOp,Op.intArith,rd_pure])
theorem bin_sub:binA P .sub t x y (.sc (.int k a)) (.sc (.int k b))=some (.sc (.int k (k.wrap (a - b)))):=bin_of _ _ _ _ _ (v:=.int k (k.wrap (a - b))) (by simp [binOp,Op.intArith,rd_pure])
theorem bin_mul:binA P .mul t x y (.sc (.int k a)) (.sc (.int k b))=some (.sc (.int k (k.wrap (a * b)))):=bin_of _ _ _ _ _ (v:=.int k (k.wrap (a * b))) (by simp [binOp,Op.intArith,rd_pure])
theorem bin_eql:binA P .eql t x y (.sc (.int k a)) (.sc (.int k b))=some (.sc (.bool (a == b))):=bin_of _ _ _ _ _ (v:=.bool (a == b)) (by simp [binOp,Op.intCmp,rd_pure])
theorem bin_neq:binA P .neq t x y (.sc (.int k a)) (.sc (.int k b))=some (.sc (.bool (a != b))):=bin_of _ _ _ _ _ (v:=.bool (a != b)) (by simp [binOp,Op.intCmp,rd_pure])
theorem bin_lss:binA P .lss t x y (.sc (.int k a)) (.sc (.int k b))=some (.sc (.bool (decide (a < b)))):=bin_of _ _ _ _ _ (v:=.bool (decide (a < b))) (by simp [binOp,Op.intCmp,rd_pure])
theorem bin_leq:binA P .leq t x y (.sc (.int k a)) (.sc (.int k b))=some (.sc (.bool (decide (a≤b)))):=bin_of _ _ _ _ _ (v:=.bool (decide (a≤b))) (by simp [binOp,Op.intCmp,rd_pure])
theorem bin_gtr:binA P .gtr t x y (.sc (.int k a)) (.sc (.int k b))=some (.sc (.bool (decide (b < a)))):=bin_of _ _ _ _ _ (v:=.bool (decide (b < a))) (by simp [binOp,Op.intCmp,rd_pure])
theorem bin_geq:binA P .geq t x y (.sc (.int k a)) (.sc (.int k b))=some (.sc (.bool (decide (b≤a)))):=bin_of _ _ _ _ _ (v:=.bool (decide (b≤a))) (by simp [binOp,Op.intCmp,rd_pure])
theorem bin_quo (h:b≠0):binA P .quo t x y (.sc (.int k a)) (.sc (.int k b))=some (.sc (.int k (k.wrap (a.tdiv b)))):=bin_of _ _ _ _ _ (v:=.int k (k.wrap (a.tdiv b))) (by simp [binOp,Op.intDiv,rd_pure,h])
theorem bin_rem (h:b≠0):binA P .rem t x y (.sc (.int k a)) (.sc (.int k b))=some (.sc (.int k (a.tmod b))):=bin_of _ _ _ _ _ (v:=.int k (a.tmod b)) (by simp [binOp,Op.intDiv,rd_pure,h])
def ibit (op:BinOp) (k:IntKind) (a b:Int):Int:=
 let x:=BitVec.ofInt k.bits a
 let y:=BitVec.ofInt k.bits b
 k.wrap ((match op with | .and=>x &&& y | .or=>x ||| y | .xor=>x ^^^ y | _=>x &&& ~~~y).toNat)
theorem bin_and:binA P .and t x y (.sc (.int k a)) (.sc (.int k b))=some (.sc (.int k (ibit .and k a b))):=bin_of _ _ _ _ _ (v:=.int k (ibit .and k a b)) (by simp [binOp,Op.intBits,rd_pure,ibit])
theorem bin_or:binA P .or t x y (.sc (.int k a)) (.sc (.int k b))=some (.sc (.int k (ibit .or k a b))):=bin_of _ _ _ _ _ (v:=.int k (ibit .or k a b)) (by simp [binOp,Op.intBits,rd_pure,ibit])
def ishl (k:IntKind) (a b:Int):Int:=k.wrap (a * 2 ^ (min b.toNat k.bits))
def ishr (k:IntKind) (a b:Int):Int:=a.fdiv (2 ^ (min b.toNat k.bits))
theorem bin_shl (k':IntKind) (h:0≤b):binA P .shl t x y (.sc (.int k a)) (.sc (.int k' b))=some (.sc (.int k (ishl k a b))):=bin_of _ _ _ _ _ (v:=.int k (ishl k a b)) (by
 have h':¬ b < 0:=by omega
 simp [binOp,Op.shift,rd_pure,ishl,h'])
theorem bin_shr (k':IntKind) (h:0≤b):binA P .shr t x y (.sc (.int k a)) (.sc (.int k' b))=some (.sc (.int k (ishr k a b))):=bin_of _ _ _ _ _ (v:=.int k (ishr k a b)) (by
 have h':¬ b < 0:=by omega
 simp [binOp,Op.shift,rd_pure,ishr,h'])
end
def unA (P:Program) (op:UnOp) (u:AV):Option AV:=
 match conc u with
 | some a=>match spure P (Op.unary op a) with
  | some v=>some (ofV v)
  | none=>none
 | none=>none
theorem rval_unOp (op:UnOp) (t:TypeId) (x:Operand):rval P s (.unOp op t x)=unA P op (ev s.T x):=rfl
theorem un_not (b:Bool):unA P .not (.sc (.bool b))=some (.sc (.bool (!b))):=rfl
def cvA (P:Program) (src dst:TypeId) (u:AV):Option AV:=
 match conc u with
 | some a=>match spure P (convert src dst a) with
  | some v=>some (ofV v)
  | none=>none
 | none=>none
theorem rval_convert0 (src dst:TypeId) (x:Operand):rval P s (.convert src dst x)=cvA P src dst (ev s.T x):=rfl
theorem cv_int {src dst:TypeId} {ks kd:IntKind} (h1:P.underlying src=some (.int ks)) (h2:P.underlying dst=some (.int kd)) (k:IntKind) (n:Int):
  cvA P src dst (.sc (.int k n))=some (.sc (.int kd (kd.wrap n))):=by
 have:spure P (convert src dst (.int k n))=some (.int kd (kd.wrap n)):=by
  unfold spure convert
  simp only [rd_bind,rd_underlying,h1,h2,Option.bind_some]
  rfl
 simp only [cvA,conc,this]; rfl
def cvX (P:Program) (src dst:TypeId) (u:AV):Option TypeDesc→Option TypeDesc→Option AV
 | some (.int _),some (.int kd)=>match u with
  | .sc (.int _ n)=>some (.sc (.int kd (kd.wrap n)))
  | _=>cvA P src dst u
 | _,_=>cvA P src dst u
theorem rval_convert (src dst:TypeId) (x:Operand):rval P s (.convert src dst x)=cvX P src dst (ev s.T x) (P.underlying src) (P.underlying dst):=by
 rw [rval_convert0]
 generalize ev s.T x=u
 unfold cvX
 split
 ·rename_i h1 h2
  split
  ·exact cv_int h1 h2 _ _
  ·rfl
 ·rfl
theorem cvX_int (src dst:TypeId) (ks kd k:IntKind) (n:Int):cvX P src dst (.sc (.int k n)) (some (.int ks)) (some (.int kd))=some (.sc (.int kd (kd.wrap n))):=rfl
def faA (H:List Blk) (off:Nat):AV→Option AV
 | .pt id ver i o=>match liveB H id ver with
  | some _=>some (.pt id ver i (o+off))
  | none=>none
 | .vp es i o=>some (.vp es i (o+off))
 | _=>none
def faD (P:Program) (H:List Blk) (v:AV):Option (Nat × Nat)→Option AV
 | some (off,ft)=>match tyD P ft with
  | some df=>if df.sz=0 then none else faA H off v
  | none=>none
 | none=>none
def faT (P:Program) (H:List Blk) (f:Nat) (v:AV):Option TyD→Option AV
 | some d=>faD P H v d.flds[f]?
 | none=>none
theorem rval_fieldAddr (t:TypeId) (x:Operand) (f:Nat):rval P s (.fieldAddr t x f)=faT P s.H f (ev s.T x) (tyD P t):=by
 simp only [rval,faT,faD,faA]
 cases tyD P t with
 | none=>rfl
 | some d=>
  simp only
  cases d.flds[f]? with
  | none=>rfl
  | some p=>
   obtain ⟨off,ft⟩:=p
   simp only
   cases tyD P ft with
   | none=>rfl
   | some df=>
    simp only
    split
    ·rfl
    ·cases ev s.T x <;> rfl
theorem faT_some (H:List Blk) (f:Nat) (v:AV) (d:TyD):faT P H f v (some d)=faD P H v d.flds[f]?:=rfl
def faS (H:List Blk) (off:Nat) (v:AV):Option TyD→Option AV
 | some df=>if df.sz=0 then none else faA H off v
 | none=>none
theorem faD_some (H:List Blk) (v:AV) (off ft:Nat):faD P H v (some (off,ft))=faS H off v (tyD P ft):=rfl
theorem faS_some (H:List Blk) (off:Nat) (v:AV) (d:TyD):faS H off v (some d)=if d.sz=0 then none else faA H off v:=rfl
def faL (o:Option Blk) (v:AV):Option AV:=match o with | some _=>some v | none=>none
theorem faA_pt (H:List Blk) (off id ver i o:Nat):faA H off (.pt id ver i o)=faL (liveB H id ver) (.pt id ver i (o+off)):=rfl
theorem faA_vp (H:List Blk) (off i o:Nat) (es:List AV):faA H off (.vp es i o)=some (.vp es i (o+off)):=rfl
theorem faL_some (B:Blk) (v:AV):faL (some B) v=some v:=rfl
theorem rval_nilCheck (x:Operand):rval P s (.nilCheck x)=(match ev s.T x with
  | .pt id ver i off=>faL (liveB s.H id ver) (.pt id ver i off)
  | .vp es i off=>some (.vp es i off)
  | .fn f cs=>some (.fn f cs)
  | _=>none):=rfl
theorem rval_extract (x:Operand) (i:Nat):rval P s (.extract x i)=(match ev s.T x with | .tu vs=>vs[i]? | _=>none):=rfl
end
section
variable {E:Env} {s:St}
theorem ho_move {κ:Nat→Bool} (x:Operand):hopB κ (.move x)=false:=rfl
theorem ho_assign {κ:Nat→Bool} (x:Operand):hopB κ (.assign x)=false:=rfl
theorem ho_pick {κ:Nat→Bool} (a b c:Operand):hopB κ (.pick a b c)=false:=rfl
theorem ho_binOp {κ:Nat→Bool} (op:BinOp) (t:TypeId) (x y:Operand) (t':TypeId):hopB κ (.binOp op t x y t')=false:=rfl
theorem ho_unOp {κ:Nat→Bool} (op:UnOp) (t:TypeId) (x:Operand):hopB κ (.unOp op t x)=false:=rfl
theorem ho_convert {κ:Nat→Bool} (a b:TypeId) (x:Operand):hopB κ (.convert a b x)=false:=rfl
theorem ho_build {κ:Nat→Bool} (t:TypeId) (ps:Array (Nat × Operand)):hopB κ (.build t ps)=false:=rfl
theorem ho_load {κ:Nat→Bool} (t:TypeId) (x:Operand):hopB κ (.load t x)=false:=rfl
theorem ho_nilCheck {κ:Nat→Bool} (x:Operand):hopB κ (.nilCheck x)=false:=rfl
theorem ho_fieldAddr {κ:Nat→Bool} (t:TypeId) (x:Operand) (f:Nat):hopB κ (.fieldAddr t x f)=false:=rfl
theorem ho_indexAddr {κ:Nat→Bool} (t:TypeId) (x y:Operand):hopB κ (.indexAddr t x y)=false:=rfl
theorem ho_slice {κ:Nat→Bool} (t:TypeId) (x:Operand) (a b c:Option Operand):hopB κ (.slice t x a b c)=false:=rfl
theorem ho_callF {κ:Nat→Bool} (g:Nat) (a:Array Operand) (b:Array TypeId):hopB κ (.call ⟨.value (.func g),a,b⟩)=κ g:=rfl
theorem ho_callT {κ:Nat→Bool} (t:Nat) (a:Array Operand) (b:Array TypeId):hopB κ (.call ⟨.value (.tmp t),a,b⟩)=false:=rfl
theorem ho_len {κ:Nat→Bool} (a:Array Operand) (b:Array TypeId):hopB κ (.call ⟨.builtin .len,a,b⟩)=false:=rfl
theorem ho_min {κ:Nat→Bool} (a:Array Operand) (b:Array TypeId):hopB κ (.call ⟨.builtin .min,a,b⟩)=false:=rfl
theorem ho_store {κ:Nat→Bool} (t:TypeId) (x y:Operand):hopB κ (.store t x y)=true:=rfl
theorem ho_buildSlice {κ:Nat→Bool} (t:TypeId) (n:Nat) (ps:Array (Nat × Operand)):hopB κ (.buildSlice t n ps)=true:=rfl
theorem ho_makeSlice {κ:Nat→Bool} (t:TypeId) (x y:Operand):hopB κ (.makeSlice t x y)=true:=rfl
theorem ho_append {κ:Nat→Bool} (a:Array Operand) (b:Array TypeId):hopB κ (.call ⟨.builtin .append,a,b⟩)=true:=rfl
theorem nh_move (x:Operand):noHeapB (.move x)=true:=rfl
theorem nh_assign (x:Operand):noHeapB (.assign x)=true:=rfl
theorem nh_pick (a b c:Operand):noHeapB (.pick a b c)=true:=rfl
theorem nh_binOp (op:BinOp) (t:TypeId) (x y:Operand) (t':TypeId):noHeapB (.binOp op t x y t')=!nilY y:=rfl
theorem nilY_tmp (x:Nat):nilY (.tmp x)=false:=rfl
theorem nilY_int (k:IntKind) (n:Int):nilY (.const (.int k n))=false:=rfl
theorem nh_unOp (op:UnOp) (t:TypeId) (x:Operand):noHeapB (.unOp op t x)=true:=rfl
theorem nh_convert (a b:TypeId) (x:Operand):noHeapB (.convert a b x)=true:=rfl
theorem nh_build (t:TypeId) (ps:Array (Nat × Operand)):noHeapB (.build t ps)=true:=rfl
theorem nh_load (t:TypeId) (x:Operand):noHeapB (.load t x)=false:=rfl
theorem nh_nilCheck (x:Operand):noHeapB (.nilCheck x)=false:=rfl
theorem nh_fieldAddr (t:TypeId) (x:Operand) (f:Nat):noHeapB (.fieldAddr t x f)=false:=rfl
theorem nh_indexAddr (t:TypeId) (x y:Operand):noHeapB (.indexAddr t x y)=false:=rfl
theorem nh_slice (t:TypeId) (x:Operand) (a b c:Option Operand):noHeapB (.slice t x a b c)=false:=rfl
theorem nh_call (f:Operand) (a:Array Operand) (b:Array TypeId):noHeapB (.call ⟨.value f,a,b⟩)=false:=rfl
theorem nh_len (a:Array Operand) (b:Array TypeId):noHeapB (.call ⟨.builtin .len,a,b⟩)=false:=rfl
theorem nh_min (a:Array Operand) (b:Array TypeId):noHeapB (.call ⟨.builtin .min,a,b⟩)=true:=rfl
theorem nh_store (t:TypeId) (x y:Operand):noHeapB (.store t x y)=false:=rfl
theorem nh_buildSlice (t:TypeId) (n:Nat) (ps:Array (Nat × Operand)):noHeapB (.buildSlice t n ps)=false:=rfl
theorem nh_makeSlice (t:TypeId) (x y:Operand):noHeapB (.makeSlice t x y)=false:=rfl
theorem nh_append (a:Array Operand) (b:Array TypeId):noHeapB (.call ⟨.builtin .append,a,b⟩)=false:=rfl
end
def pin:List (Nat × (List AV→Option AV))→Nat→Bool
 | [],_=>false
 | (g,_)::r,f=>if f=g then true else pin r f
def pl:List (Nat × (List AV→Option AV))→Nat→List AV→Option AV
 | [],_,_=>none
 | (g,F)::r,f,a=>if f=g then F a else pl r f a
def pEnv (l:List (Nat × (List AV→Option AV))):Env:=⟨pin l,pl l,fun _ _ _ _=>none,false,fun _=>none,fun _=>false⟩
def POk (P:Program) (g:Nat) (F:List AV→Option AV):Prop:=∀ args r,F args=some r→PSpec P g args r
inductive POks (P:Program):List (Nat × (List AV→Option AV))→Prop
 | nil:POks P []
 | cons {g F r} (h:POk P g F) (t:POks P r):POks P ((g,F)::r)
theorem pEnv_ok {P:Program} {l:List (Nat × (List AV→Option AV))} (h:POks P l):EnvOk P (pEnv l) where
 p f args r he:=by
  simp only [pEnv] at he
  induction h with
  | nil=>simp [pl] at he
  | @cons g F l h t ih=>
   simp only [pl] at he
   split at he
   ·rename_i hh; subst hh; exact h args r he
   ·exact ih he
 h f args H cnt r H' cnt' he:=by simp [pEnv] at he
theorem ite_both {c p q:Prop} [Decidable c] (h:c→p) (h':¬ c→q):if c then p else q:=by split <;> simp_all
end Go.SX
