/-
  Lemmas towards ModesHandles (joined texts: SXP).
  Conditions: none.
-/
import Derived.Test.YtdjpkhjaibdogaaGreatM01
import Derived.Test.YtdjpkhjaibdogaaGreatM08
import Derived.Orders
set_option linter.unusedSimpArgs false
set_option linter.unusedVariables false
set_option maxRecDepth 100000
namespace Go.SX
open Go.RowKit (Below)
section
variable {P:Program} {E:Env} {w:World} {X:Nat→Prop} {loc:Nat→Option (Nat × Nat)} {s:St} {a:Act}
def Zg (P:Program) (w:World) (X:Nat→Prop) (loc:Nat→Option (Nat × Nat)) (s:St) (a:Act) (all:Array Oper) (o:Oper) (s':St):Prop:=
 ∀ (K:Act→World→Prop) (Q:Exit→Act→World→Prop),
  (∀ c w' X' loc',SR w' X' loc' s' (a.put o.dst c)→Evo w X (s.hc loc) w' X' (s'.hc loc')→K (a.put o.dst c) w')→
  if Region.wanted o (yielded all a.tmps)=true then o.wp P a w K Q else K (a.put o.dst undef) w
theorem XL (s:St) (d:Option Nat) (v:AV) (loc):(s.put d v).hc loc=s.hc loc:=by cases d <;> rfl
theorem Aks (hE:EnvOk P E) (hs:SR w X loc s a) {o:Oper} {s':St} (h:Ga P E s o=some s') (K:Act→World→Prop) (Q:Exit→Act→World→Prop)
  (hK:∀ c w' X' loc',SR w' X' loc' s' (a.put o.dst c)→Evo w X (s.hc loc) w' X' (s'.hc loc')→K (a.put o.dst c) w'):o.wp P a w K Q:=by
 unfold Ga at h
 split at h
 ·split at h
  ·rename_i g args ht
   split at h
   ·rename_i r H' cnt' hr
    cases h
    obtain ⟨hc,hcall⟩:=hE.h _ _ _ _ _ _ _ hr
    obtain ⟨cargs,e1,e2⟩:=Zf hs ht hc
    have hrun:=Fh e1
    unfold Oper.wp
    rw [hrun]
    refine (hcall w X loc cargs hs.hr e2).mono ?_
    rintro e w' ⟨X',loc',c,he,h1,h2,h3⟩
    subst he
    have base:SR w' X' loc' { s with H:=H',cnt:=cnt' } a:=⟨h1,hs.tm.mono h3 hs.hr,hs.df⟩
    exact hK _ _ X' loc' (base.put o.dst h2) (by rw [XL]; exact h3)
   ·cases h
  ·cases h
 ·obtain ⟨n,c,w',X',loc',h1,h2,h3,h4⟩:=Af8 hs h
  exact Ap2
theorem Akt (hE:EnvOk P E) (hs:SR w X loc s a) {o:Oper} {v:AV} (h:JG P E s o.op=some v) (K:Act→World→Prop) (Q:Exit→Act→World→Prop)
  (hK:∀ c w' X' loc',SR w' X' loc' (s.put o.dst v) (a.put o.dst c)→Evo w X (s.hc loc) w' X' ((s.put o.dst v).hc loc')→K (a.put o.dst c) w'):o.wp P a w K Q:=by
 obtain ⟨c,h1,h2⟩:=S8 hE hs h
 have hq:=h2 w ⟨rfl,rfl,rfl,Aw _,fun _ _=>rfl⟩
 refine Oper.wp_of_quiet (C:=Below w.heap.size w) (K:=fun a'=>∃ c,a'=a.put o.dst c∧SR w X loc (s.put o.dst v) (a.put o.dst c)) ⟨rfl,rfl,rfl,Aw _,fun _ _=>rfl⟩ ?_ ⟨c,h2,c,rfl,hs.put o.dst h1⟩
 rintro a' w' hw ⟨c',rfl,hsr⟩
 exact hK c' w' X loc (hsr.below hw) (by rw [XL]; exact Ep hw X _)
theorem RD (hE:EnvOk P E) (hs:SR w X loc s a) {all:Array Oper} {o:Oper} {s':St} (h:Ah P E all s o=some s'):Zg P w X loc s a all o s':=by
 intro K Q hK
 unfold Ah at h
 have skip:s'=s.put o.dst .un→K (a.put o.dst undef) w:=by
  intro e; subst e
  exact hK _ _ X loc (hs.put o.dst .un) (by rw [XL]; exact Evo.refl _ _ _)
 split at h
 ·rename_i hg
  have hw:Region.wanted o (yielded all a.tmps)=true:=by unfold Region.wanted; rw [hg]
  rw [if_pos hw]
  exact Aow
 ·rename_i j want hg
  split at h
  ·rename_i b hgv
   have hy:=LW hs hgv
   have hw:Region.wanted o (yielded all a.tmps)=(b == want):=by
    unfold Region.wanted; rw [hg]; simp only [hy]; cases b <;> cases want <;> rfl
   rw [hw]
   by_cases hbw:b=want
   ·subst hbw
    simp only [beq_self_eq_true,lx6] at h ⊢
    exact Aow
   ·have hbf:(b == want)=false:=by simpa using hbw
    rw [hbf,if_neg (by simp)]
    simp only [hbw,lx7] at h
    split at h
    ·simp only [lx34,lx16] at h
     exact skip h.symm
    ·cases h; exact skip rfl
  ·rename_i hgv
   have hy:=O5 hs hgv
   have hw:Region.wanted o (yielded all a.tmps)=false:=by
    unfold Region.wanted; rw [hg]; simp only [hy]; rfl
   rw [hw,if_neg (by simp)]
   cases h
   exact skip rfl
  ·cases h
theorem XM (hE:EnvOk P E) (hs:SR w X loc s a) {all:Array Oper} {o:Oper} {s':St} (h:Kr P E all s o=some s'):Zg P w X loc s a all o s':=by
 unfold Kr F7 at h
 split at h
 rotate_left
 ·exact RD hE hs h
 rename_i hc
 simp only [AT,Option.isNone_iff_eq_none] at hc
 intro K Q hK
 have hw:Region.wanted o (yielded all a.tmps)=true:=by unfold Region.wanted; rw [hc.2]
 rw [if_pos hw]
 obtain ⟨n,c,w',X',loc',h1,h2,h3,h4⟩:=XK hs hc.1.2 h
 exact Ap2
theorem RE (hE:EnvOk P E) {all:Array Oper} (Q:Exit→Act→World→Prop):∀ (n k:Nat) {w:World} {X:Nat→Prop} {loc:Nat→Option (Nat × Nat)} {s s':St} {a:Act},
  k+n=all.size→Gb P E all (all.toList.drop k) s=some s'→SR w X loc s a→
  (∀ a' w' X' loc',SR w' X' loc' s' a'→Evo w X (s.hc loc) w' X' (s'.hc loc')→Q .normal a' w')→wpOps P all Q (List.range' k n) a w
 | 0,k,w,X,loc,s,s',a,hk,h,hs,hQ=>by
  rw [List.drop_eq_nil_of_le (by simp; omega)] at h
  simp only [Gb,lx16] at h
  subst h
  exact hQ _ _ X loc hs (Evo.refl _ _ _)
 | n+1,k,w,X,loc,s,s',a,hk,h,hs,hQ=>by
  have hlt:k < all.size:=Ai
  rw [lx75 (by simpa using hlt)] at h
  simp only [Gb] at h
  split at h
  ·rename_i s1 h1
   have hst:=XM hE hs h1
   have hget:all[k]?=some all[k]:=by simp [hlt]
   simp only [List.range'_succ,wpOps,hget]
   have hKK:∀ a' w' X' loc',SR w' X' loc' s1 a'→Evo w X (s.hc loc) w' X' (s1.hc loc')→wpOps P all Q (List.range' (k+1) n) a' w':=by
    intro a' w' X' loc' g1 g2
    exact RE hE Q n (k+1) (by omega) h g1 (fun a2 w2 X2 loc2 k1 k2=>hQ a2 w2 X2 loc2 k1 (g2.trans k2))
   have:=hst (wpOps P all Q (List.range' (k+1) n)) Q (fun c w' X' loc' g1 g2=>hKK _ w' X' loc' g1 g2)
   have harr:all.toList[k]'(by simpa using hlt)=all[k]:=Bc
   rw [harr] at this
   split
   ·rename_i hw
    rw [if_pos hw] at this
    exact .inl this
   ·rename_i hw
    rw [if_neg hw] at this
    exact this
  ·cases h
theorem Acj (hE:EnvOk P E) {id:Nat} {ops:Array Oper} {s':St} (h:Gb P E ops ops.toList s=some s') (hs:SR w X loc s a) {Q:Exit→Act→World→Prop}
  (hQ:∀ a' w' X' loc',SR w' X' loc' s' a'→Evo w X (s.hc loc) w' X' (s'.hc loc')→Q .normal a' w'):(Code.region id ops false).wp P Q a w:=by
 refine wp_region ?_
 have:=RE hE (all:=ops) Q ops.size 0 (by omega) (by simpa using h) hs hQ
 rwa [List.range_eq_range']
end
section
variable {P:Program} {E:Env} {T T':List AV} {H H':List Blk} {c c':Nat}
theorem M1 {as:Array Operand} (h:∀ x ∈ as.toList,ev T x=ev T' x):as.toList.map (ev T)=as.toList.map (ev T'):=List.map_congr_left h
theorem NH {ps:Array (Nat × Operand)} (h:∀ x ∈ (ps.toList.map (·.2)),ev T x=ev T' x):(ps.toList.map fun p=>(p.1,ev T p.2))=ps.toList.map fun p=>(p.1,ev T' p.2):=by
 refine List.map_congr_left fun p hp=>?_
 rw [h p.2 (lx35.2 ⟨p,hp,rfl⟩)]
theorem I5 {x:Option Operand} (h:∀ y ∈ x.toArray.toList,ev T y=ev T' y) (d hi:Nat):Be T x d hi=Be T' x d hi:=by
 cases x with
 | none=>rfl
 | some x=>simp only [Be]; rw [h x (by simp [Option.toArray])]
theorem JU {x:Option Operand} (h:∀ y ∈ x.toArray.toList,ev T y=ev T' y):F6 T x=F6 T' x:=by
 cases x with
 | none=>rfl
 | some x=>simp only [F6]; rw [h x (by simp [Option.toArray])]
theorem XN (op:Op) (h:∀ x ∈ op.operands.toList,ev T x=ev T' x):AH P ⟨T,H,c⟩ op=AH P ⟨T',H,c'⟩ op:=by
 cases op with
 | slice t x lo hi mx=>
  simp only [Op.operands,Array.toList_append,lx76] at h
  have hx:=h x (by simp)
  have h1:=fun d k=>I5 (T:=T) (T':=T') (x:=lo) (fun y hy=>h y (.inl (.inl (.inr hy)))) d k
  have h2:=fun d k=>I5 (T:=T) (T':=T') (x:=hi) (fun y hy=>h y (.inl (.inr hy))) d k
  have h3:=fun d k=>I5 (T:=T) (T':=T') (x:=mx) (fun y hy=>h y (.inr hy)) d k
  have k1:=JU (T:=T) (T':=T') (x:=lo) (fun y hy=>h y (.inl (.inl (.inr hy))))
  have k2:=JU (T:=T) (T':=T') (x:=hi) (fun y hy=>h y (.inl (.inr hy)))
  have k3:=JU (T:=T) (T':=T') (x:=mx) (fun y hy=>h y (.inr hy))
  simp only [AH,hx,h1,h2,h3,k1,k2,k3]
 | build t ps=>
  have:=NH (T:=T) (T':=T') (ps:=ps) (by simpa [Op.operands] using h)
  simp only [AH,this]
 | makeFunc f first caps=>
  have:=M1 (T:=T) (T':=T') (as:=caps) (fun x hx=>h x (by simp [Op.operands] at hx ⊢; exact .inr hx))
  cases f <;> simp only [AH,this]
 | call cl=>
  obtain ⟨cal,args,ats⟩:=cl
  have hm:∀ x ∈ args.toList,ev T x=ev T' x:=fun x hx=>h x (by
   simp only [Op.operands,Call.operands]
   simp at hx ⊢
   first | exact .inr hx | exact hx | exact .inl hx)
  have hc:=M1 (as:=args) hm
  cases cal with
  | builtin b=>
   cases b <;> simp only [AH,hc]
   obtain ⟨args⟩:=args
   simp only at hm
   generalize ats.toList=tl
   match tl,args with
   | [],_=>rfl
   | _::_::_,_=>rfl
   | [t],[]=>rfl
   | [t],_::_::_=>rfl
   | [t],[x]=>
    have hx:=hm x (by simp)
    simp only [hx]
  | _=>simp only [AH]
 | _=>simp [Op.operands] at h <;> simp only [AH,h]
theorem I6 {op:Op} (h:∀ x ∈ op.operands.toList,ev T x=ev T' x):Fj ⟨T,H,c⟩ op=Fj ⟨T',H',c'⟩ op:=by
 unfold Fj
 cases op with
 | call cl=>
  obtain ⟨cal,args,ats⟩:=cl
  cases cal with
  | value f=>
   have hm:∀ x ∈ args.toList,ev T x=ev T' x:=fun x hx=>h x (by
    simp only [Op.operands,Call.operands]
    simp at hx ⊢
    first | exact .inr hx | exact hx | exact .inl hx)
   have hf:ev T f=ev T' f:=h f (by simp [Op.operands,Call.operands])
   simp only [hf,M1 hm]
  | _=>rfl
 | _=>rfl
theorem Tc {op:Op} (h:∀ x ∈ op.operands.toList,ev T x=ev T' x):AZ E ⟨T,H,c⟩ op=AZ E ⟨T',H',c'⟩ op:=by
 unfold AZ
 rw [I6 (H':=H') (c':=c') h]
theorem XO {op:Op} (h:∀ x ∈ op.operands.toList,ev T x=ev T' x):JG P E ⟨T,H,c⟩ op=JG P E ⟨T',H,c'⟩ op:=by
 unfold JG
 rw [I6 (H':=H) (c':=c') h,XN (c':=c') op h]
theorem UJ {op:Op} {d:Option Nat} {s':St} (h:∀ x ∈ op.operands.toList,ev T x=ev T' x) (hs:AG P ⟨T,H,c⟩ op d=some s'):
  ∃ v,s'=⟨Dy T d v,s'.H,s'.cnt⟩∧AG P ⟨T',H,c⟩ op d=some ⟨Dy T' d v,s'.H,s'.cnt⟩:=by
 cases op with
 | box t x=>
  have hx:=h x (by simp [Op.operands])
  simp only [AG,←hx] at hs ⊢
  clear hx h
  split at hs
  ·rename_i h1
   cases hs
   refine ⟨_,by rw [B5],?_⟩
   rw [if_pos h1,B5,B5]
  ·cases hs
 | alloc t=>
  simp only [AG] at hs ⊢
  exact Asc
 | store t x y=>
  exact Aoy
 | buildSlice t len ps=>
  have hp:=NH (T:=T) (T':=T') (ps:=ps) (by simpa [Op.operands] using h)
  simp only [AG,←hp] at hs ⊢
  clear hp h
  exact Asc
 | makeSlice t x y=>
  exact Aoy
 | call cl=>
  obtain ⟨cal,args,ats⟩:=cl
  have hm:∀ x ∈ args.toList,ev T x=ev T' x:=fun x hx=>h x (by
   simp only [Op.operands,Call.operands]
   simp at hx ⊢
   first | exact .inr hx | exact hx | exact .inl hx)
  cases cal with
  | builtin b=>
   cases b <;> simp only [AG] at hs <;> first | (cases hs; done) | skip
   ·simp only [AG]
    obtain ⟨args⟩:=args
    simp only at hm hs ⊢
    generalize ats.toList=tl at hs ⊢
    match tl,args,hm,hs with
    | [t,t'],[x,y],hm,hs=>
     exact Apj
   ·simp only [AG]
    obtain ⟨args⟩:=args
    simp only at hm hs ⊢
    generalize ats.toList=tl at hs ⊢
    match tl,args,hm,hs with
    | [t],[x],hm,hs=>
     have hx:=hm x (by simp)
     simp only [←hx] at hs ⊢
     clear hx hm h
     exact Awk
   ·simp only [AG]
    obtain ⟨args⟩:=args
    simp only at hm hs ⊢
    generalize ats.toList=tl at hs ⊢
    match tl,args,hm,hs with
    | [t,t'],[x,y],hm,hs=>
     exact Apj
  | _=>simp only [AG] at hs; cases hs
 | _=>simp only [AG] at hs; cases hs
theorem Pa {o:Oper} {s':St} (h:∀ x ∈ o.op.operands.toList,ev T x=ev T' x) (hs:Ga P E ⟨T,H,c⟩ o=some s'):
  ∃ v,s'=⟨Dy T o.dst v,s'.H,s'.cnt⟩∧Ga P E ⟨T',H,c⟩ o=some ⟨Dy T' o.dst v,s'.H,s'.cnt⟩:=by
 unfold Ga at hs ⊢
 split at hs
 ·rename_i hc
  rw [if_pos hc,←I6 (H:=H) (c:=c) h]
  split at hs
  ·rename_i g args ht
   simp only at hs ⊢
   split at hs
   ·rename_i r H1 c1 hr
    cases hs
    simp only [B5]
    exact ⟨r,rfl,rfl⟩
   ·cases hs
  ·cases hs
 ·rename_i hc
  rw [if_neg hc]
  exact UJ h hs
theorem Hd {ops:Array Oper} {o:Oper} {s':St} (h:∀ t ∈ o.looksAt ops,T.getD t .un=T'.getD t .un) (hs:Ah P E ops ⟨T,H,c⟩ o=some s'):
  ∃ v,s'=⟨Dy T o.dst v,s'.H,s'.cnt⟩∧Ah P E ops ⟨T',H,c⟩ o=some ⟨Dy T' o.dst v,s'.H,s'.cnt⟩:=by
 have h1:∀ x ∈ o.op.operands.toList,ev T x=ev T' x:=by
  intro x hx
  cases x with
  | tmp t=>exact h t (by
    unfold Oper.looksAt
    exact lx77 _ (List.mem_filterMap.2 ⟨.tmp t,hx,rfl⟩))
  | _=>rfl
 have hp:=XO (P:=P) (E:=E) (H:=H) (c:=c) (c':=c) h1
 have hi:=Tc (E:=E) (H:=H) (c:=c) (H':=H) (c':=c) h1
 unfold Ah at hs ⊢
 rw [←hp,←hi]
 split at hs
 ·split at hs
  ·rename_i hpure
   rw [if_pos hpure]
   exact Apa
  ·rename_i hpure
   rw [if_neg hpure]
   exact Pa h1 hs
 ·rename_i j want hg
  have h2:Ap ops ⟨T,H,c⟩ j=Ap ops ⟨T',H,c⟩ j:=by
   unfold Ap
   cases hd:(ops[j]?).bind (·.dst) with
   | none=>rfl
   | some d=>exact h d (by unfold Oper.looksAt; rw [hg]; simp [hd])
  rw [←h2]
  split at hs
  ·rename_i b hb
   by_cases hpure:AZ E ⟨T,H,c⟩ o.op=true
   ·rw [if_pos hpure] at hs ⊢
    exact Apa
   ·rw [if_neg hpure] at hs ⊢
    by_cases hbw:b=want
    ·rw [if_pos hbw] at hs ⊢
     exact Pa h1 hs
    ·rw [if_neg hbw] at hs ⊢
     cases hs
     exact ⟨.un,by rw [B5],by rw [B5,B5]⟩
  ·cases hs
   exact ⟨.un,by rw [B5],by rw [B5,B5]⟩
  ·cases hs
end
def Td (acc:List Nat) (o:Oper):Nat:=
 o.after.toList.foldl (fun m e=>if Region.binds .any e=true then m ||| (1 <<< e.on) ||| acc.getD e.on 0 else m) 0
def Kt:List Oper→List Nat→List Nat
 | [],acc=>acc
 | o::r,acc=>Kt r (acc++[Td acc o])
def Afa (ops:Array Oper):List Nat:=Kt ops.toList []
def before (ops:Array Oper) (i k:Nat):Bool:=((Afa ops).getD k 0).testBit i
def Gp (ops:Array Oper) (L:Nat→Bool):Prop:=∀ j oj,ops[j]?=some oj→L j=true→∀ e ∈ oj.after,Region.binds .any e=true→L e.on=true
def Pb (ops:Array Oper) (L:Nat→Bool) (k:Nat):Prop:=∀ o,ops[k]?=some o→∀ e ∈ o.after,Region.binds .any e=true→L e.on=true
theorem UK (acc:List Nat) (o:Oper) (i:Nat) (h:(Td acc o).testBit i=true):∃ e ∈ o.after,Region.binds .any e=true∧(e.on=i∨(acc.getD e.on 0).testBit i=true):=by
 unfold Td at h
 have key:∀ (l:List Edge) (m:Nat),(l.foldl (fun m e=>if Region.binds .any e=true then m ||| (1 <<< e.on) ||| acc.getD e.on 0 else m) m).testBit i=true→
   m.testBit i=true∨∃ e ∈ l,Region.binds .any e=true∧(e.on=i∨(acc.getD e.on 0).testBit i=true):=by
  intro l
  induction l with
  | nil=>intro m h; exact .inl h
  | cons e l ih=>
   intro m h
   rw [List.foldl_cons] at h
   rcases ih _ h with h1 | ⟨e',he',h1⟩
   ·split at h1
    ·rename_i hb
     rw [Nat.testBit_or,Nat.testBit_or] at h1
     simp only [Iu] at h1
     rcases h1 with (h1 | h1) | h1
     ·exact .inl h1
     ·refine .inr ⟨e,lx48,hb,.inl ?_⟩
      rw [Nat.testBit_shiftLeft] at h1
      simp only [AT,AR] at h1
      have:=h1.2
      by_cases hz:i - e.on=0
      ·omega
      ·obtain ⟨q,hq⟩:∃ q,i - e.on=q+1:=⟨i - e.on - 1,by omega⟩
       rw [hq,Nat.testBit_succ] at this
       simp at this
     ·exact .inr ⟨e,lx48,hb,.inr h1⟩
    ·exact .inl h1
   ·exact .inr ⟨e',lx49 _ he',h1⟩
 rcases key _ _ h with h1 | ⟨e,he,h1⟩
 ·simp at h1
 ·exact ⟨e,by simpa using he,h1⟩
def Afb (ops:Array Oper) (acc:List Nat):Prop:=
 ∀ k i,k < acc.length→(acc.getD k 0).testBit i=true→∀ L,Gp ops L→Pb ops L k→L i=true
theorem LY (ops:Array Oper):∀ (l:List Oper) (acc:List Nat),ops.toList.drop acc.length=l→Afb ops acc→Afb ops (Kt l acc)
 | [],acc,_,h=>h
 | o::r,acc,hl,h=>by
  have hlt:acc.length < ops.toList.length:=by
   rcases Ec acc.length ops.toList.length with h | h
   ·exact h
   ·rw [List.drop_eq_nil_of_le h] at hl; cases hl
  have ho:ops[acc.length]?=some o:=by
   rw [lx75 hlt] at hl
   injection hl with h1 h2
   rw [←h1]; simp at hlt; simp [hlt]
  refine LY ops r (acc++[Td acc o]) (by
   rw [lx5,List.length_singleton,←List.drop_drop,hl,List.drop_succ_cons,lx73]) ?_
  intro k i hk hb L hc hd
  rw [lx80,lx18] at hb
  by_cases hka:k < acc.length
  ·rw [if_pos hka,←lx80] at hb
   exact h k i hka hb L hc hd
  ·have hke:k=acc.length:=by rw [lx5,List.length_singleton] at hk; omega
   rw [if_neg hka,hke,OV] at hb
   simp only [lx45,lx10] at hb
   obtain ⟨e,he,hbd,h1⟩:=UK acc o i hb
   have hon:=hd o (by rw [hke]; exact ho) e he hbd
   rcases h1 with h1 | h1
   ·rw [←h1]; exact hon
   ·by_cases hel:e.on < acc.length
    ·exact h e.on i hel h1 L hc (fun o' ho' e' he' hb'=>hc e.on o' ho' hon e' he' hb')
    ·rw [lx80,lx30 (by omega)] at h1
     simp at h1
theorem IB {ops:Array Oper} {i k:Nat} (h:before ops i k=true) {L:Nat→Bool} (hc:Gp ops L) (hd:Pb ops L k):L i=true:=by
 have:=LY ops ops.toList [] rfl (fun k i hk=>by simp at hk)
 unfold before Afa at h
 by_cases hk:k < (Kt ops.toList []).length
 ·exact this k i hk h L hc hd
 ·rw [lx80,lx30 (by omega)] at h
  simp at h
theorem Ku {ops:Array Oper} {i k:Nat} (h:before ops i k=true) {L:Nat→Bool} (hc:Gp ops L) (hk:L k=true):L i=true:=
 IB h hc (fun o ho e he hb=>hc k o ho hk e he hb)
def Da (ops:Array Oper) (k:Nat):Option Nat:=(ops[k]?).bind (·.dst)
variable {κ:Nat→Bool}
def Fl (o:Oper):Bool:=Cs o.op || isHeapOp o.op
def Hx (κ:Nat→Bool) (ops:Array Oper) (x y:Oper):Bool:=!(x.apart ops y) || (Cy κ x.op && Cy κ y.op && !H4 y)
def B6 (κ:Nat→Bool) (ops:Array Oper) (h:Nat):Bool:=match ops[h]? with | some o=>Cy κ o.op | none=>false
def gB (κ:Nat→Bool) (ops:Array Oper) (i k:Nat):Bool:=
 if B6 κ ops i=true then (List.range (i+1)).all fun h=>!B6 κ ops h || h == k || before ops h k else before ops i k
def Rb (κ:Nat→Bool) (ops:Array Oper) (k:Nat):Bool:=match ops[k]? with | some o=>H4 o && !gB κ ops k k | none=>false
def soleB (κ:Nat→Bool) (ops:Array Oper) (k:Nat):Bool:=match Da ops k with
 | none=>true
 | some d=>(List.range ops.size).all fun j=>j == k || (match ops[j]? with | some o=>(o.dst != some d) && (!(o.looksAt ops).contains d || gB κ ops k j) | none=>true)
def F8 (κ:Nat→Bool) (ops:Array Oper):Bool:=
 let ms:=Afa ops
 ((List.range ops.size).all fun k=>match ops[k]? with
  | some ok=>(ok.after.all fun e=>!Region.binds .any e || decide (e.on < k)) && (List.range k).all fun i=>match ops[i]? with
   | some oi=>!(Hx κ ops oi ok) || (ms.getD k 0).testBit i
   | none=>true
  | none=>true) && (List.range ops.size).all fun k=>!Rb κ ops k || soleB κ ops k
theorem Hy {ops:Array Oper} (h:F8 κ ops=true) {i k:Nat} {oi ok:Oper} (hi:ops[i]?=some oi) (hk:ops[k]?=some ok) (hik:i < k) (hc:Hx κ ops oi ok=true):before ops i k=true:=by
 have h0:=(AT _ _ ▸ h:_∧_).1
 have h1:=lx28.1 h0 k (IZ.2 (lx50.1 hk).1)
 simp only [hk,AT] at h1
 have h2:=lx28.1 h1.2 i (IZ.2 hik)
 simp only [hi,hc,LO,Ii] at h2
 exact h2
theorem Pc {ops:Array Oper} (h:F8 κ ops=true) {k:Nat} {ok:Oper} (hk:ops[k]?=some ok) {e:Edge} (he:e ∈ ok.after) (hb:Region.binds .any e=true):e.on < k:=by
 have h0:=(AT _ _ ▸ h:_∧_).1
 have h1:=lx28.1 h0 k (IZ.2 (lx50.1 hk).1)
 simp only [hk,AT] at h1
 have:=Array.all_eq_true_iff_forall_mem.1 h1.1 e he
 simpa [hb] using this
theorem Ll {ops:Array Oper} (h:F8 κ ops=true) {k:Nat} (hk:Rb κ ops k=true):soleB κ ops k=true:=by
 have h0:=(AT _ _ ▸ h:_∧_).2
 have hlt:k < ops.size:=by
  rcases Ec k ops.size with h | h
  ·exact h
  ·unfold Rb at hk; rw [Array.getElem?_eq_none h] at hk; cases hk
 have h1:=lx28.1 h0 k (IZ.2 hlt)
 rw [hk] at h1
 simpa using h1
theorem Ou {ops:Array Oper} {i k h:Nat} (hi:B6 κ ops i=true) (hg:gB κ ops i k=true) (hh:B6 κ ops h=true) (hle:h≤i) (hne:h≠k):before ops h k=true:=by
 unfold gB at hg
 rw [if_pos hi] at hg
 have:=lx28.1 hg h (IZ.2 (by omega))
 have hq:(h == k)=false:=by simpa using hne
 simpa [hh,hq] using this
theorem Axo {ops:Array Oper} {i k:Nat} (hi:B6 κ ops i=false):gB κ ops i k=before ops i k:=by unfold gB; rw [hi]; simp
theorem M3 {ops:Array Oper} {k j d:Nat} {o:Oper} (h:soleB κ ops k=true) (hd:Da ops k=some d) (hj:ops[j]?=some o) (hne:j≠k):o.dst≠some d∧(d ∈ o.looksAt ops→gB κ ops k j=true):=by
 unfold soleB at h
 rw [hd] at h
 have:=lx28.1 h j (IZ.2 (lx50.1 hj).1)
 have hq:(j == k)=false:=by simpa using hne
 simp only [hj,hq,Ii,AT,bne_iff_ne,ne_eq,Iu,JK,List.contains_eq_mem] at this
 refine ⟨this.1,fun hm=>?_⟩
 rcases this.2 with h | h
 ·simp [hm] at h
 ·exact h
section
variable {P:Program} {E:Env}
theorem M4 {ops:Array Oper} {s s':St} {o:Oper} (hp:AZ E s o.op=true) (h:Ah P E ops s o=some s'):s'.H=s.H∧s'.cnt=s.cnt:=by
 unfold Ah at h
 split at h
 ·simp only [hp,lx6,lx24] at h
  obtain ⟨v,_,rfl⟩:=h
  exact Ro
 ·split at h
  ·simp only [hp,lx6,lx24] at h
   obtain ⟨v,_,rfl⟩:=h
   exact Ro
  ·cases h
   exact Ro
  ·cases h
theorem Og {s:St} {o:Oper} (h:AZ E s o.op=false):Fl o=true:=by
 unfold AZ at h
 unfold Fl
 cases hc:Cs o.op with
 | true=>rfl
 | false=>rw [hc] at h; simpa using h
def hd (κ:Nat→Bool) (ops:Array Oper) (tr:Nat→St) (h:Nat):Prop:=∃ o,ops[h]?=some o∧Cy κ o.op=true
theorem Afc {ops:Array Oper} {tr:Nat→St} {h:Nat}:hd κ ops tr h↔B6 κ ops h=true:=by
 unfold hd B6
 constructor
 ·rintro ⟨o,h1,h2⟩; rw [h1]; exact h2
 ·intro h1
  split at h1
  ·rename_i o ho; exact ⟨o,ho,h1⟩
  ·cases h1
structure Trace (P:Program) (E:Env) (κ:Nat→Bool) (ops:Array Oper) (tr:Nat→St):Prop where
 step:∀ i o,ops[i]?=some o→Ah P E ops (tr i) o=some (tr (i+1))
 keep:∀ i o,ops[i]?=some o→Cy κ o.op=false→(tr (i+1)).H=(tr i).H∧(tr (i+1)).cnt=(tr i).cnt
 past:∀ i o h,ops[i]?=some o→Cy κ o.op=false→h < i→hd κ ops tr h→gB κ ops h i=false→
  Ah P E ops ⟨(tr i).T,(tr h).H,(tr h).cnt⟩ o=some ⟨(tr (i+1)).T,(tr h).H,(tr h).cnt⟩
 fut:∀ i o h,ops[i]?=some o→Cy κ o.op=false→i < h→hd κ ops tr h→before ops i h=false→
  Ah P E ops ⟨(tr i).T,(tr (h+1)).H,(tr (h+1)).cnt⟩ o=some ⟨(tr (i+1)).T,(tr (h+1)).H,(tr (h+1)).cnt⟩
 born:∀ i o,ops[i]?=some o→H4 o=true→gB κ ops i i=false→norefs (Dh (tr (i+1)).H)=true
variable {ops:Array Oper} {tr:Nat→St}
theorem Trace.same (ht:Trace P E κ ops tr):∀ (d i:Nat),i+d≤ops.size→(∀ j,i≤j→j < i+d→B6 κ ops j=false)→(tr (i+d)).H=(tr i).H∧(tr (i+d)).cnt=(tr i).cnt
 | 0,i,_,_=>⟨rfl,rfl⟩
 | d+1,i,hl,h=>by
  obtain ⟨e1,e2⟩:=ht.same d i (by omega) (fun j h1 h2=>h j h1 (by omega))
  have hlt:i+d < ops.size:=Ai
  have ho:ops[i+d]?=some ops[i+d]:=by simp [hlt]
  have hp:Cy κ ops[i+d].op=false:=by
   have:=h (i+d) (by omega) (by omega)
   simpa [B6,ho] using this
  obtain ⟨g1,g2⟩:=ht.keep _ _ ho hp
  exact ⟨by rw [show i+(d+1)=i+d+1 by omega,g1,e1],by rw [show i+(d+1)=i+d+1 by omega,g2,e2]⟩
def KV (ops:Array Oper) (tr:Nat→St) (k:Nat):AV:=match Da ops k with | some d=>(tr (k+1)).T.getD d .un | none=>.un
def ET (κ:Nat→Bool) (ops:Array Oper) (tr:Nat→St) (m k:Nat):AV:=if m≤k∧B6 κ ops k=true then .jk else KV ops tr k
def Dj (ops:Array Oper) (T0:List AV) (val:Nat→AV):Nat→(Nat→Bool)→List AV
 | 0,_=>T0
 | k+1,L=>if L k=true then Dy (Dj ops T0 val k L) (Da ops k) (val k) else Dj ops T0 val k L
theorem Afd (T:List AV) (d:Option Nat) (v:AV):(Dy T d v).length=T.length:=by cases d <;> simp [Dy]
theorem RF (T:List AV) {d d':Option Nat} (v v':AV) (h:∀ x,d=some x→d'≠some x):Dy (Dy T d v) d' v'=Dy (Dy T d' v') d v:=by
 cases d with
 | none=>rfl
 | some x=>cases d' with
  | none=>rfl
  | some y=>
   have:x≠y:=fun e=>h x rfl (by rw [e])
   simp only [Dy]
   rw [List.set_comm _ _ this]
theorem XP (T:List AV) (d:Option Nat) (v v':AV):Dy (Dy T d v) d v'=Dy T d v':=by
 cases d <;> simp [Dy]
variable {T0:List AV} {val val':Nat→AV}
theorem Eg (L:Nat→Bool):∀ n,(Dj ops T0 val n L).length=T0.length
 | 0=>rfl
 | n+1=>by
  rw [Dj]; split
  ·rw [Afd,Eg L n]
  ·exact Eg L n
theorem JV {L L':Nat→Bool}:∀ n,(∀ j,j < n→L j=L' j∧(L j=true→val j=val' j))→Dj ops T0 val n L=Dj ops T0 val' n L'
 | 0,_=>rfl
 | n+1,h=>by
  have ih:=JV (L:=L) (L':=L') n (fun j hj=>h j (by omega))
  obtain ⟨h1,h2⟩:=h n (by omega)
  rw [Dj,Dj,←h1,ih]
  split
  ·rename_i hq; rw [h2 hq]
  ·rfl
theorem Pd {L L':Nat→Bool} (r:Nat):∀ n,(∀ j,j < n→Da ops j=some r→L j=L' j∧(L j=true→val j=val' j))→(Dj ops T0 val n L)[r]?=(Dj ops T0 val' n L')[r]?
 | 0,_=>rfl
 | n+1,h=>by
  have ih:=Pd (L:=L) (L':=L') r n (fun j hj=>h j (by omega))
  have hl:(Dj ops T0 val n L).length=(Dj ops T0 val' n L').length:=by rw [Eg,Eg]
  have put:∀ (T:List AV) (v:AV),Da ops n≠some r→(Dy T (Da ops n) v)[r]?=T[r]?:=by
   intro T v hne
   cases hd:Da ops n with
   | none=>rfl
   | some d=>
    have:d≠r:=fun e=>hne (by rw [hd,e])
    simp only [Dy]
    rw [lx52 this]
  by_cases hd:Da ops n=some r
  ·obtain ⟨h1,h2⟩:=h n (by omega) hd
   rw [Dj,Dj,←h1]
   split
   ·rename_i hq
    rw [hd,h2 hq]
    simp only [Dy]
    rw [lx21,lx21]
    simp [hl]
   ·exact ih
  ·rw [Dj,Dj]
   split <;> split <;> simp only [put _ _ hd,ih]
theorem LZ {L:Nat→Bool} {i:Nat} (hL:∀ j,i≤j→L j=false):∀ d,Dj ops T0 val (i+d) L=Dj ops T0 val i L
 | 0=>rfl
 | d+1=>by
  rw [show i+(d+1)=(i+d)+1 by omega,Dj,if_neg (by rw [hL (i+d) (by omega)]; decide),LZ hL d]
theorem L0 {L:Nat→Bool} {i:Nat} (hi:L i=false):∀ n,i < n→(∀ j,i < j→j < n→L j=true→∀ d,Da ops i=some d→Da ops j≠some d)→
  Dj ops T0 val n (fun j=>L j || j == i)=Dy (Dj ops T0 val n L) (Da ops i) (val i)
 | 0,h,_=>by omega
 | n+1,h,hw=>by
  by_cases E5:i=n
  ·subst E5
   rw [Dj,Dj,if_pos (by simp),if_neg (by rw [hi]; decide)]
   congr 1
   refine JV _ fun j hj=>⟨?_,fun _=>rfl⟩
   have:(j == i)=false:=E9
   simp [this]
  ·have ih:=L0 (L:=L) hi n (by omega) (fun j h1 h2=>hw j h1 (by omega))
   have hq:(n == i)=false:=E9
   rw [Dj,Dj,ih]
   simp only [hq,I0]
   split
   ·rename_i hL
    exact RF _ _ _ (hw n (by omega) (by omega) hL)
   ·rfl
theorem UL {L:Nat→Bool} {m:Nat} (hm:L m=true) (hv:∀ j,j≠m→val j=val' j):∀ n,m < n→(∀ j,m < j→j < n→L j=true→∀ d,Da ops m=some d→Da ops j≠some d)→
  Dj ops T0 val' n L=Dy (Dj ops T0 val n L) (Da ops m) (val' m)
 | 0,h,_=>by omega
 | n+1,h,hw=>by
  by_cases E5:m=n
  ·subst E5
   rw [Dj,Dj,if_pos hm,if_pos hm,XP]
   congr 1
   exact JV _ fun j hj=>⟨rfl,fun _=>(hv j (by omega)).symm⟩
  ·have ih:=UL (L:=L) hm hv n (by omega) (fun j h1 h2=>hw j h1 (by omega))
   rw [Dj,Dj,ih,hv n (fun e=>E5 e.symm)]
   split
   ·rename_i hL
    exact RF _ _ _ (hw n (by omega) (by omega) hL)
   ·rfl
theorem Trace.put (ht:Trace P E κ ops tr) {i:Nat} {o:Oper} (ho:ops[i]?=some o):(tr (i+1)).T=Dy (tr i).T (Da ops i) (KV ops tr i):=by
 obtain ⟨v,h1,_⟩:=Hd (T:=(tr i).T) (T':=(tr i).T) (H:=(tr i).H) (c:=(tr i).cnt) (fun _ _=>rfl) (ht.step i _ ho)
 have hdst:Da ops i=o.dst:=by simp [Da,ho]
 unfold KV
 rw [hdst,h1]
 cases hd:o.dst with
 | none=>rfl
 | some d=>
  simp only [Dy]
  by_cases hlt:d < (tr i).T.length
  ·rw [lx80,List.getElem?_set_self hlt,lx10]
  ·have hle:(tr i).T.length≤d:=Nat.le_of_not_lt hlt
   rw [lx72 hle,lx72 hle]
theorem Trace.slots (ht:Trace P E κ ops tr):∀ i,i≤ops.size→∀ L:Nat→Bool,(∀ j,j < i→L j=true)→Dj ops (tr 0).T (KV ops tr) i L=(tr i).T
 | 0,_,_,_=>rfl
 | i+1,hi,L,hL=>by
  have ih:=ht.slots i (by omega) L (fun j hj=>hL j (by omega))
  rw [Dj,if_pos (hL i (by omega)),ih,ht.put (show ops[i]?=some ops[i] by simp)]
theorem Trace.len (ht:Trace P E κ ops tr) {i:Nat} (hi:i≤ops.size):(tr i).T.length=(tr 0).T.length:=by
 rw [←ht.slots i hi (fun _=>true) (fun _ _=>rfl),Eg]
def Te (κ:Nat→Bool) (ops:Array Oper) (L:Nat→Bool) (m:Nat):Prop:=m=ops.size∨(B6 κ ops m=true∧L m=false)
theorem Aku (hB:F8 κ ops=true) {L:Nat→Bool} (hc:Gp ops L) {m:Nat} (hN:Te κ ops L m) {k:Nat} (hk:B6 κ ops k=true) (hmk:m≤k) (hL:L k=true):Rb κ ops k=true:=by
 have hks:k < ops.size:=by
  rcases Ec k ops.size with h | h
  ·exact h
  ·unfold B6 at hk; rw [Array.getElem?_eq_none h] at hk; cases hk
 rcases hN with hN | ⟨h1,h2⟩
 ·omega
 have hne:m≠k:=fun e=>by rw [e,hL] at h2; cases h2
 have hms:m < ops.size:=Ai
 have hom:ops[m]?=some ops[m]:=Bc
 have hok:ops[k]?=some ops[k]:=Bc
 have hpm:Cy κ ops[m].op=true:=by simpa [B6,hom] using h1
 have hpk:Cy κ ops[k].op=true:=by simpa [B6,hok] using hk
 have nb:before ops m k=false:=by
  cases hq:before ops m k with
  | false=>rfl
  | true=>rw [Ku hq hc hL] at h2; cases h2
 have hl:H4 ops[k]=true:=by
  cases hq:H4 ops[k] with
  | true=>rfl
  | false=>
   have:=Hy hB hom hok (by omega) (by unfold Hx; rw [hpm,hpk,hq]; simp)
   rw [nb] at this; cases this
 unfold Rb
 rw [hok]
 simp only [hl,Gs,JK]
 cases hq:gB κ ops k k with
 | false=>rfl
 | true=>
  have:=Ou hk hq h1 hmk hne
  rw [nb] at this; cases this
theorem Trace.looks (hB:F8 κ ops=true) (ht:Trace P E κ ops tr) {L:Nat→Bool} (hc:Gp ops L) {i:Nat} {o:Oper} (ho:ops[i]?=some o) (hi:L i=false) (hd':Pb ops L i)
  {m:Nat} (hN:Te κ ops L m):∀ t ∈ o.looksAt ops,(tr i).T.getD t .un=(Dj ops (tr 0).T (ET κ ops tr m) ops.size L).getD t .un:=by
 have E5:i < ops.size:=(lx50.1 ho).1
 intro t htl
 have e1:(Dj ops (tr 0).T (KV ops tr) ops.size (fun j=>decide (j < i)))[t]?=(tr i).T[t]?:=by
  have:=LZ (ops:=ops) (T0:=(tr 0).T) (val:=KV ops tr) (L:=fun j=>decide (j < i)) (i:=i) (fun j hj=>by simp; omega) (ops.size - i)
  rw [show i+(ops.size - i)=ops.size by omega] at this
  rw [this,ht.slots i (by omega) _ (fun j hj=>by simpa using hj)]
 have e2:=Pd (ops:=ops) (T0:=(tr 0).T) (val:=KV ops tr) (val':=ET κ ops tr m) (L:=fun j=>decide (j < i)) (L':=L) t ops.size (by
  intro j hj hdj
  have hoj:ops[j]?=some ops[j]:=by simp [hj]
  have hdj':ops[j].dst=some t:=by simpa [Da,hoj] using hdj
  rcases Nat.lt_trichotomy j i with hji | hji | hji
  ·have hb:before ops j i=true:=Hy hB hoj ho hji (by
    unfold Hx Oper.apart
    simp [hdj',htl])
   have hLj:=IB hb hc hd'
   refine ⟨by rw [hLj]; simpa using hji,fun _=>?_⟩
   unfold ET
   split
   ·exfalso
    rename_i hh
    have hmay:=Aku hB hc hN hh.2 hh.1 hLj
    have hsole:=Ll hB hmay
    have hg:=(M3 hsole hdj ho (by omega)).2 htl
    rcases hN with hN | ⟨h1,h2⟩
    ·omega
    ·have hmj:m≠j:=fun e=>by rw [e,hLj] at h2; cases h2
     have:=IB (Ou hh.2 hg h1 hh.1 (by omega)) hc hd'
     rw [h2] at this; cases this
   ·rfl
  ·subst hji; rw [hi]; simp
  ·have:before ops i j=true:=Hy hB ho hoj hji (by
    unfold Hx Oper.apart
    cases o.dst <;> simp [hdj',htl])
   have hLj:L j=false:=by
    cases hq:L j with
    | false=>rfl
    | true=>rw [Ku this hc hq] at hi; cases hi
   rw [hLj]
   have hq:decide (j < i)=false:=E9
   simp [hq])
 rw [lx80,lx80,←e1,e2]
theorem Afe (hB:F8 κ ops=true) {L:Nat→Bool} (hc:Gp ops L) {i:Nat} (hi:L i=false):∀ j,i < j→j < ops.size→L j=true→∀ d,Da ops i=some d→Da ops j≠some d:=by
 intro j hij hj hL d hd hdj
 have hoj:ops[j]?=some ops[j]:=Bc
 have hoi:ops[i]?=some (ops[i]'(by omega)):=Bc
 have hdj':ops[j].dst=some d:=by simpa [Da,hoj] using hdj
 have hdi':(ops[i]'(by omega)).dst=some d:=by simpa [Da,hoi] using hd
 have:before ops i j=true:=Hy hB hoi hoj hij (by
  unfold Hx Oper.apart
  simp [hdi',hdj'])
 rw [Ku this hc hL] at hi; cases hi
theorem Trace.pureAt (ht:Trace P E κ ops tr) {L:Nat→Bool} (hc:Gp ops L) {i:Nat} {o:Oper} (ho:ops[i]?=some o) (hi:L i=false) (hd':Pb ops L i) (hp:Cy κ o.op=false)
  {m:Nat} (hm:m≤ops.size) (hlo:∀ h,h < m→B6 κ ops h=true→L h=true) (hN:Te κ ops L m):
  Ah P E ops ⟨(tr i).T,(tr m).H,(tr m).cnt⟩ o=some ⟨(tr (i+1)).T,(tr m).H,(tr m).cnt⟩:=by
 have E5:i < ops.size:=(lx50.1 ho).1
 have lex:Ah P E ops ⟨(tr i).T,(tr i).H,(tr i).cnt⟩ o=some ⟨(tr (i+1)).T,(tr i).H,(tr i).cnt⟩:=by
  have h0:=ht.step i o ho
  obtain ⟨g1,g2⟩:=ht.keep i o ho hp
  rw [h0,←g1,←g2]
 rcases Ec i m with him | him
 ·
  have up:∀ d,i+1+d≤m→Ah P E ops ⟨(tr i).T,(tr (i+1+d)).H,(tr (i+1+d)).cnt⟩ o=some ⟨(tr (i+1)).T,(tr (i+1+d)).H,(tr (i+1+d)).cnt⟩:=by
   intro d
   induction d with
   | zero=>
    intro _
    obtain ⟨g1,g2⟩:=ht.keep i o ho hp
    rw [JF,g1,g2]; exact lex
   | succ d ih=>
    intro hle
    cases hh:B6 κ ops (i+1+d) with
    | true=>
     have hLh:L (i+1+d)=true:=hlo _ (by omega) hh
     have hb:before ops i (i+1+d)=false:=by
      cases hq:before ops i (i+1+d) with
      | false=>rfl
      | true=>rw [Ku hq hc hLh] at hi; cases hi
     have:=ht.fut i o (i+1+d) ho hp (by omega) (Afc.2 hh) hb
     rw [show i+1+(d+1)=i+1+d+1 by omega]
     exact this
    | false=>
     obtain ⟨g1,g2⟩:=ht.same 1 (i+1+d) (by omega) (fun j h1 h2=>by rwa [show j=i+1+d by omega])
     rw [show i+1+(d+1)=i+1+d+1 by omega,g1,g2]
     exact ih (by omega)
  have:=up (m - (i+1)) (by omega)
  rwa [show i+1+(m - (i+1))=m by omega] at this
 ·
  have down:∀ d,d≤i - m→Ah P E ops ⟨(tr i).T,(tr (i - d)).H,(tr (i - d)).cnt⟩ o=some ⟨(tr (i+1)).T,(tr (i - d)).H,(tr (i - d)).cnt⟩:=by
   intro d
   induction d with
   | zero=>intro _; exact lex
   | succ d ih=>
    intro hle
    cases hh:B6 κ ops (i - (d+1)) with
    | true=>
     have hb:gB κ ops (i - (d+1)) i=false:=by
      cases hq:gB κ ops (i - (d+1)) i with
      | false=>rfl
      | true=>
       rcases hN with hN | ⟨h1,h2⟩
       ·omega
       ·have:=IB (Ou hh hq h1 (by omega) (by omega)) hc hd'
        rw [h2] at this; cases this
     exact ht.past i o (i - (d+1)) ho hp (by omega) (Afc.2 hh) hb
    | false=>
     obtain ⟨g1,g2⟩:=ht.same 1 (i - (d+1)) (by omega) (fun j h1 h2=>by rwa [show j=i - (d+1) by omega])
     rw [show i - (d+1)+1=i - d by omega] at g1 g2
     rw [←g1,←g2]
     exact ih (by omega)
  have:=down (i - m) (Aw _)
  rwa [show i - (i - m)=m by omega] at this
end
def NI (listed:Array Bool) (n:Nat):Nat:=((List.range n).filter fun i=>!listed.getD i true).length
theorem RG {α:Type} {p q:α→Bool}:∀ (l:List α),(∀ x ∈ l,q x=true→p x=true)→(∃ x ∈ l,p x=true∧q x=false)→(l.filter q).length < (l.filter p).length
 | [],_,h=>by obtain ⟨x,hx,_⟩:=h; cases hx
 | y::l,h1,h2=>by
  have hle:∀ l:List α,(∀ x ∈ l,q x=true→p x=true)→(l.filter q).length≤(l.filter p).length:=by
   intro l
   induction l with
   | nil=>intro _; exact Aw _
   | cons z l ih=>
    intro h
    have:=ih (fun x hx=>h x (lx49 _ hx))
    have hz:=h z lx48
    simp only [List.filter_cons]
    cases hq:q z <;> cases hp:p z <;> simp <;> first | omega | (rw [hz hq] at hp; cases hp)
  have hl:=hle l (fun x hx=>h1 x (lx49 _ hx))
  have hy:=h1 y lx48
  by_cases hex:∃ x ∈ l,p x=true∧q x=false
  ·have ih:=RG l (fun x hx=>h1 x (lx49 _ hx)) hex
   simp only [List.filter_cons]
   cases hq:q y <;> cases hp:p y <;> simp <;> first | omega | (rw [hy hq] at hp; cases hp)
  ·obtain ⟨x,hx,hpx,hqx⟩:=h2
   rcases lx59.1 hx with rfl | hx
   ·simp only [List.filter_cons,hpx,hqx]
    simp; omega
   ·exact absurd ⟨x,hx,hpx,hqx⟩ hex
section
variable {P:Program} {E:Env} {w:World} {X:Nat→Prop} {loc:Nat→Option (Nat × Nat)} {a:Act} {ops:Array Oper} {tr:Nat→St}
theorem EZ {listed:Array Bool} {i:Nat} (h:i ∈ Region.ready .any ops listed):∃ o,ops[i]?=some o∧listed.getD i true=false∧∀ e ∈ o.after,Region.binds .any e=true→listed.getD e.on false=true:=by
 unfold Region.ready at h
 simp only [List.mem_filter,IZ,AT,JK] at h
 obtain ⟨h1,h2,h3⟩:=h
 have ho:ops[i]?=some ops[i]:=by simp [h1]
 rw [ho] at h3
 simp only [lx34,lx10] at h3
 refine ⟨_,ho,h2,fun e he hb=>?_⟩
 have:=Array.all_eq_true_iff_forall_mem.1 h3 e he
 simpa [hb] using this
theorem Pf {listed:Array Bool} {i:Nat} {o:Oper} (ho:ops[i]?=some o) (h1:listed.getD i true=false) (h2:∀ e ∈ o.after,Region.binds .any e=true→listed.getD e.on false=true):i ∈ Region.ready .any ops listed:=by
 unfold Region.ready
 simp only [List.mem_filter,IZ,AT,JK]
 refine ⟨(lx50.1 ho).1,h1,?_⟩
 rw [ho]
 simp only [lx34,lx10]
 refine Array.all_eq_true_iff_forall_mem.2 fun e he=>?_
 cases hb:Region.binds .any e with
 | false=>rfl
 | true=>simp [h2 e he hb]
theorem He {listed:Array Bool} {i:Nat} (h:i < listed.size):listed.getD i true=listed.getD i false:=by simp [h]
theorem Ov {T T':List AV} {d:Option Nat} {v v':AV} (h:Dy T d v=Dy T d v') (hl:T'.length=T.length):Dy T' d v=Dy T' d v':=by
 cases d with
 | none=>rfl
 | some d=>
  simp only [Dy] at h ⊢
  by_cases hlt:d < T.length
  ·have h1:=congrArg (fun l=>l[d]?) h
   simp only [List.getElem?_set_self hlt,lx16] at h1
   rw [h1]
  ·rw [lx72 (by omega),lx72 (by omega)]
def Pend (κ:Nat→Bool) (ops:Array Oper) (tr:Nat→St) (w0 w1:World) (X1:Nat→Prop) (hc1:HC) (a1:Act) (k b:Nat):Prop:=
 w0.heap.size≤b∧Rb κ ops k=true∧∃ o rv ty esz els tmp,ops[k]?=some o∧
  tr (k+1)=⟨Dy (tr k).T o.dst (UI rv (tr k).H.length (tr k).cnt),(tr k).H++[⟨true,(tr k).cnt,ty,esz,els,tmp⟩],(tr k).cnt+1⟩∧
  Born w1 X1 hc1 b ty esz els∧∀ d,o.dst=some d→d < (tr 0).T.length→∃ v,a1.tmps.toList[d]?=some v∧RvV w1 rv ty esz els.length b v
theorem Pend.mono {w0 w1 w2:World} {X1 X2:Nat→Prop} {hc1 hc2:HC} {a1:Act} {k b i:Nat} {oi:Oper} {c:Value} (h:Pend κ ops tr w0 w1 X1 hc1 a1 k b) (hB:F8 κ ops=true) (hoi:ops[i]?=some oi) (hne:i≠k)
  (ev:Evo w1 X1 hc1 w2 X2 hc2) (hr:HR w1 X1 hc1):Pend κ ops tr w0 w2 X2 hc2 (a1.put oi.dst c) k b:=by
 obtain ⟨h1,h2,o,rv,ty,esz,els,tmp,h3,h4,h5,h6⟩:=h
 refine ⟨h1,h2,o,rv,ty,esz,els,tmp,h3,h4,h5.mono ev hr,fun d hd hlt=>?_⟩
 obtain ⟨v,g1,g2⟩:=h6 d hd hlt
 have hs:=(M3 (Ll hB h2) (show Da ops k=some d by simp [Da,h3,hd]) hoi hne).1
 refine ⟨v,?_,g2.mono ev⟩
 cases hq:oi.dst with
 | none=>exact g1
 | some x=>
  have hx:x≠d:=fun e=>hs (by rw [hq,e])
  simp only [Act.put,Array.toList_setIfInBounds]
  rw [lx52 hx]
  exact g1
structure DI (w:World) (X:Nat→Prop) (loc:Nat→Option (Nat × Nat)) (κ:Nat→Bool) (ops:Array Oper) (tr:Nat→St) (L:Nat→Bool) (m:Nat) (a1:Act) (w1:World) (X1:Nat→Prop) (loc1:Nat→Option (Nat × Nat)):Prop where
 cl:Gp ops L
 ml:m≤ops.size
 lo:∀ h,h < m→B6 κ ops h=true→L h=true
 sr:SR w1 X1 loc1 ⟨Dj ops (tr 0).T (ET κ ops tr m) ops.size L,(tr m).H,(tr m).cnt⟩ a1
 ev:Evo w X ((tr 0).hc loc) w1 X1 ⟨loc1,(tr m).H,(tr m).cnt⟩
 pe:∃ bf:Nat→Nat,(∀ k,B6 κ ops k=true→m≤k→L k=true→Pend κ ops tr w w1 X1 ⟨loc1,(tr m).H,(tr m).cnt⟩ a1 k (bf k))∧
  ∀ k k',B6 κ ops k=true→m≤k→L k=true→B6 κ ops k'=true→m≤k'→L k'=true→bf k=bf k'→k=k'
theorem DI.norm (hB:F8 κ ops=true) (ht:Trace P E κ ops tr) {L:Nat→Bool} {a1:Act} {w1:World} {X1:Nat→Prop}:∀ (n:Nat) {m:Nat} {loc1:Nat→Option (Nat × Nat)},ops.size - m≤n→DI w X loc κ ops tr L m a1 w1 X1 loc1→
  ∃ m' loc',DI w X loc κ ops tr L m' a1 w1 X1 loc'∧Te κ ops L m'
 | 0,m,loc1,hn,h=>⟨m,loc1,h,.inl (by have:=h.ml; omega)⟩
 | n+1,m,loc1,hn,h=>by
  by_cases hm:m=ops.size
  ·exact ⟨m,loc1,h,.inl hm⟩
  have hml:=h.ml
  have hlt:m < ops.size:=Ai
  cases hh:B6 κ ops m with
  | false=>
   obtain ⟨g1,g2⟩:=ht.same 1 m (by omega) (fun j h1 h2=>by rwa [show j=m by omega])
   have Ga:ET κ ops tr (m+1)=ET κ ops tr m:=by
    funext j
    unfold ET
    by_cases hj:j=m
    ·subst hj; simp [hh]
    ·exact Aew
   refine DI.norm hB ht n (m:=m+1) (loc1:=loc1) (by omega) ⟨h.cl,by omega,?_,?_,?_,?_⟩
   ·intro k hk hp
    by_cases hkm:k=m
    ·rw [hkm,hh] at hp; cases hp
    ·exact h.lo k (by omega) hp
   ·rw [Ga,g1,g2]; exact h.sr
   ·rw [g1,g2]; exact h.ev
   ·rw [g1,g2]
    obtain ⟨bf,p1,p2⟩:=h.pe
    exact ⟨bf,fun k a b c=>p1 k a (by omega) c,fun k k' a b c a' b' c'=>p2 k k' a (by omega) c a' (by omega) c'⟩
  | true=>
   cases hL:L m with
   | false=>exact ⟨m,loc1,h,.inr ⟨hh,hL⟩⟩
   | true=>
    obtain ⟨bf,p1,p2⟩:=h.pe
    obtain ⟨q1,q2,o,rv,ty,esz,els,tmp,ho,htr,hb,hv⟩:=p1 m hh (Aw _) hL
    have hdo:Da ops m=o.dst:=by simp [Da,ho]
    have hreg:=Asu (dst:=o.dst) (rv:=rv) (tmp:=tmp) h.sr hb (fun d hd hl=>hv d hd (by rwa [Eg] at hl))
    have hT:Dj ops (tr 0).T (ET κ ops tr (m+1)) ops.size L=Dy (Dj ops (tr 0).T (ET κ ops tr m) ops.size L) o.dst (UI rv (tr m).H.length (tr m).cnt):=by
     rw [UL (val:=ET κ ops tr m) (val':=ET κ ops tr (m+1)) hL (fun j hj=>?_) ops.size hlt (fun j h1 h2 h3 d hd=>?_)]
     ·have hvm:ET κ ops tr (m+1) m=KV ops tr m:=by unfold ET; rw [if_neg (by omega)]
      rw [hvm,hdo]
      refine Ov (T:=(tr m).T) ?_ (by rw [Eg]; exact (ht.len h.ml).symm)
      rw [←hdo,←ht.put ho,htr,hdo]
     ·unfold ET
      exact Aew
     ·have hoj:ops[j]?=some ops[j]:=by simp
      have:=(M3 (Ll hB q2) hd hoj (by omega)).1
      simpa [Da,hoj] using this
    refine DI.norm hB ht n (m:=m+1) (loc1:=fun k=>if k=(tr m).H.length then some (bf m,0) else loc1 k) (by omega) ⟨h.cl,by omega,?_,?_,?_,bf,?_,?_⟩
    ·intro k hk hp
     by_cases hkm:k=m
     ·rw [hkm]; exact hL
     ·exact h.lo k (by omega) hp
    ·rw [hT,htr]; exact hreg
    ·rw [htr]; exact Akr _ rfl h.ev q1
    ·intro k k1 k2 k3
     obtain ⟨r1,r2,o',rv',ty',esz',els',tmp',r3,r4,r5,r6⟩:=p1 k k1 (by omega) k3
     refine ⟨r1,r2,o',rv',ty',esz',els',tmp',r3,r4,?_,r6⟩
     rw [htr]
     refine Aci _ r5 fun e=>?_
     have:=p2 k m k1 (by omega) k3 hh (Aw _) hL e
     omega
    ·exact fun k k' a b c a' b' c'=>p2 k k' a (by omega) c a' (by omega) c'
theorem UM (hE:EnvOk P E) (hB:F8 κ ops=true) (ht:Trace P E κ ops tr) {Q:Exit→Act→World→Prop}
  (hQ:∀ a' w' X' loc',SR w' X' loc' (tr ops.size) a'→Evo w X ((tr 0).hc loc) w' X' ((tr ops.size).hc loc')→Q .normal a' w'):
  ∀ (fuel:Nat) (listed:Array Bool) (a1:Act) (w1:World) (X1:Nat→Prop) (loc1:Nat→Option (Nat × Nat)) (m:Nat),listed.size=ops.size→
   DI w X loc κ ops tr (fun j=>listed.getD j false) m a1 w1 X1 loc1→NI listed ops.size≤fuel→
   wpAny P .any ops Q fuel listed a1 w1:=by
 intro fuel
 have done:∀ (listed:Array Bool) (a1:Act) (w1:World) (X1:Nat→Prop) (loc1:Nat→Option (Nat × Nat)) (m:Nat),listed.size=ops.size→DI w X loc κ ops tr (fun j=>listed.getD j false) m a1 w1 X1 loc1→
   Region.ready .any ops listed=[]→Q .normal a1 w1:=by
  intro listed a1 w1 X1 loc1 m hsz hd hnil
  have hall:∀ k,k < ops.size→listed.getD k false=true:=by
   intro k
   induction k using Nat.strongRecOn with
   | _ k ih=>
    intro hk
    cases hq:listed.getD k false with
    | true=>rfl
    | false=>
     have ho:ops[k]?=some ops[k]:=by simp [hk]
     have:=Pf (listed:=listed) ho (by rw [He (by omega)]; exact hq) (fun e he hb=>ih e.on (Pc hB ho he hb) (by have:=Pc hB ho he hb; omega))
     rw [hnil] at this; cases this
  obtain ⟨m',loc',hd',hN⟩:=hd.norm hB ht (ops.size - m) (Aw _)
  have hm':m'=ops.size:=by
   rcases hN with hN | ⟨h1,h2⟩
   ·exact hN
   ·have hlt:m' < ops.size:=by
     rcases Ec m' ops.size with h | h
     ·exact h
     ·unfold B6 at h1; rw [Array.getElem?_eq_none h] at h1; cases h1
    have h3:=hall m' hlt
    simp only at h2
    rw [h3] at h2; cases h2
  subst hm'
  have hT:Dj ops (tr 0).T (ET κ ops tr ops.size) ops.size (fun j=>listed.getD j false)=(tr ops.size).T:=by
   rw [←ht.slots ops.size (Aw _) (fun j=>listed.getD j false) hall]
   refine JV _ fun j hj=>⟨rfl,fun _=>?_⟩
   unfold ET; rw [if_neg (by omega)]
  have hs:=hd'.sr
  rw [hT] at hs
  exact hQ a1 w1 X1 loc' hs hd'.ev
 induction fuel with
 | zero=>
  intro listed a1 w1 X1 loc1 m hsz hd hop
  have hnil:Region.ready .any ops listed=[]:=by
   cases hr:Region.ready .any ops listed with
   | nil=>rfl
   | cons i r=>
    exfalso
    obtain ⟨o,ho,h1,h2⟩:=EZ (ops:=ops) (listed:=listed) (i:=i) (by rw [hr]; exact lx48)
    have:i ∈ (List.range ops.size).filter fun i=>!listed.getD i true:=by
     simp only [List.mem_filter,IZ]
     exact ⟨(lx50.1 ho).1,by rw [h1]; rfl⟩
    have:=List.length_pos_of_mem this
    unfold NI at hop
    omega
  exact ⟨hnil,done listed a1 w1 X1 loc1 m hsz hd hnil⟩
 | succ fuel ih=>
  intro listed a1 w1 X1 loc0 m0 hsz hd0 hop
  refine ⟨done listed a1 w1 X1 loc0 m0 hsz hd0,fun i hi=>?_⟩
  obtain ⟨m,loc1,hd,hN⟩:=hd0.norm hB ht (ops.size - m0) (Aw _)
  clear hd0
  obtain ⟨o,ho,h1,h2⟩:=EZ hi
  have E5:i < ops.size:=(lx50.1 ho).1
  have hdo:Da ops i=o.dst:=by simp [Da,ho]
  have hif:listed.getD i false=false:=by rw [←He (by omega)]; exact h1
  have hdeps:Pb ops (fun j=>listed.getD j false) i:=fun o' ho' e he hb=>by rw [ho] at ho'; cases ho'; exact h2 e he hb
  have hset:∀ j,(listed.setIfInBounds i true).getD j false=(listed.getD j false || j == i):=by
   intro j
   by_cases hji:j=i
   ·subst hji
    have:j < listed.size:=Ai
    simp [this]
   ·have:(j == i)=false:=by simpa using hji
    rw [this,I0]
    have hne:i≠j:=fun e=>hji e.symm
    simp [Array.getD_eq_getD_getElem?,Array.getElem?_setIfInBounds_ne hne]
  have hfun:(fun j=>(listed.setIfInBounds i true).getD j false)=fun j=>listed.getD j false || j == i:=funext hset
  have hcl':Gp ops (fun j=>listed.getD j false || j == i):=by
   intro j oj hoj hLj e he hb
   simp only [Iu,lx85] at hLj ⊢
   rcases hLj with hLj | hLj
   ·exact .inl (hd.cl j oj hoj hLj e he hb)
   ·subst hLj
    rw [ho] at hoj; cases hoj
    exact .inl (h2 e he hb)
  have hop':NI (listed.setIfInBounds i true) ops.size≤fuel:=by
   have:NI (listed.setIfInBounds i true) ops.size < NI listed ops.size:=by
    unfold NI
    refine RG _ (fun j hj hq=>?_) ⟨i,IZ.2 E5,by rw [h1]; rfl,?_⟩
    ·have hj':j < ops.size:=IZ.1 hj
     rw [He (by simp; omega),hset,Bool.not_or,AT] at hq
     rw [He (by omega)]
     exact hq.1
    ·rw [He (by simp; omega),hset]; simp
   omega
  have hK:∀ a' w' X' loc' m',DI w X loc κ ops tr (fun j=>listed.getD j false || j == i) m' a' w' X' loc'→wpAny P .any ops Q fuel (listed.setIfInBounds i true) a' w':=by
   intro a' w' X' loc' m' hd'
   exact ih (listed.setIfInBounds i true) a' w' X' loc' m' (by simp [hsz]) (by rw [hfun]; exact hd') hop'
  have hlook:=ht.looks hB hd.cl ho hif hdeps hN
  have hfree:=Afe (ops:=ops) hB hd.cl hif
  obtain ⟨bf,p1,p2⟩:=hd.pe
  have go:∀ (s':St) (m':Nat),Ah P E ops ⟨Dj ops (tr 0).T (ET κ ops tr m) ops.size (fun j=>listed.getD j false),(tr m).H,(tr m).cnt⟩ o=some s'→
    s'=⟨Dj ops (tr 0).T (ET κ ops tr m') ops.size (fun j=>listed.getD j false || j == i),(tr m').H,(tr m').cnt⟩→m'≤ops.size→(∀ h,h < m'→B6 κ ops h=true→(listed.getD h false || h == i)=true)→
    (B6 κ ops i=true→i < m')→m≤m'→wpOp P ops Q i (wpAny P .any ops Q fuel (listed.setIfInBounds i true)) a1 w1:=by
   intro s' m' hop hs' hm' hlo' him hmm
   have hst:=RD hE hd.sr hop
   have:=hst (wpAny P .any ops Q fuel (listed.setIfInBounds i true)) Q (fun c w' X' loc' g1 g2=>by
    subst hs'
    refine hK _ w' X' loc' m' ⟨hcl',hm',hlo',g1,hd.ev.trans g2,bf,?_,?_⟩
    ·intro k hk hmk hLk
     have hki:i≠k:=fun e=>by subst e; have:=him hk; omega
     have hq:(k == i)=false:=by simp; exact fun e=>hki e.symm
     simp only [hq,I0] at hLk
     exact (p1 k hk (by omega) hLk).mono hB ho hki g2 hd.sr.hr
    ·intro k k' c1 c2 c3 d1 d2 d3
     have hki:i≠k:=fun e=>by subst e; have:=him c1; omega
     have hki':i≠k':=fun e=>by subst e; have:=him d1; omega
     have hq:(k == i)=false:=by simp; exact fun e=>hki e.symm
     have hq':(k' == i)=false:=by simp; exact fun e=>hki' e.symm
     simp only [hq,hq',I0] at c3 d3
     exact p2 k k' c1 (by omega) c3 d1 (by omega) d3)
   unfold wpOp
   rw [ho]
   simp only
   split
   ·rename_i hw
    rw [if_pos hw] at this
    exact .inl this
   ·rename_i hw
    rw [if_neg hw] at this
    exact this
  cases hp:Cy κ o.op with
  | false=>
   have hh:B6 κ ops i=false:=by unfold B6; rw [ho]; exact hp
   have good:=ht.pureAt hd.cl ho hif hdeps hp hd.ml hd.lo hN
   obtain ⟨v,g1,g2⟩:=Hd hlook good
   injection g1 with g1 _
   refine go _ m g2 ?_ hd.ml (fun h hh hp=>by rw [hd.lo h hh hp]; rfl) (fun h=>by rw [hh] at h; cases h) (Aw _)
   rw [L0 hif ops.size E5 hfree]
   have hvm:ET κ ops tr m i=KV ops tr i:=by unfold ET; rw [if_neg (by rw [hh]; simp)]
   rw [hvm,hdo]
   congr 1
   refine Ov (T:=(tr i).T) ?_ (by rw [Eg]; exact (ht.len (by omega)).symm)
   rw [←g1,←hdo,←ht.put ho]
  | true=>
   have hh:B6 κ ops i=true:=by unfold B6; rw [ho]; exact hp
   have hmi:m≤i:=by
    rcases Ec i m with h | h
    ·have:=hd.lo i h hh
     rw [hif] at this; cases this
    ·exact h
   cases hmay:Rb κ ops i with
   | false=>
    have hbelow:∀ h,h < i→B6 κ ops h=true→listed.getD h false=true:=by
     intro h hlt hhh
     have hoh:ops[h]?=some (ops[h]'(by omega)):=Bc
     have hph:Cy κ (ops[h]'(by omega)).op=true:=by simpa [B6,hoh] using hhh
     have hb:before ops h i=true:=by
      cases hl:H4 o with
      | false=>exact Hy hB hoh ho hlt (by unfold Hx; rw [hph,hp,hl]; simp)
      | true=>
       have:gB κ ops i i=true:=by
        unfold Rb at hmay
        rw [ho] at hmay
        simpa [hl] using hmay
       exact Ou hh this hhh (by omega) (by omega)
     exact IB hb hd.cl hdeps
    have hmi':m=i:=by
     rcases hN with hN | ⟨h1,h2⟩
     ·omega
     ·rcases Ec m i with h | h
      ·have:=hbelow m h h1
       simp only at h2
       rw [this] at h2; cases h2
      ·omega
    subst hmi'
    obtain ⟨v,g1,g2⟩:=Hd (T:=(tr m).T) (H:=(tr m).H) (c:=(tr m).cnt) hlook (ht.step m o ho)
    refine go _ (m+1) g2 ?_ (by omega) (fun h hlt hp=>?_) (fun _=>by omega) (by omega)
    ·rw [L0 hif ops.size E5 hfree]
     have hvm:ET κ ops tr (m+1) m=KV ops tr m:=by unfold ET; rw [if_neg (by omega)]
     rw [hvm,hdo,JV (val:=ET κ ops tr (m+1)) (val':=ET κ ops tr m) (L':=fun j=>listed.getD j false) ops.size (fun j hj=>⟨rfl,fun hLj=>?_⟩)]
     ·congr 1
      refine Ov (T:=(tr m).T) ?_ (by rw [Eg]; exact (ht.len (by omega)).symm)
      have e1:=congrArg St.T g1
      simp only at e1
      rw [←e1,←hdo,←ht.put ho]
     ·have hjm:j≠m:=fun e=>by subst e; rw [hif] at hLj; cases hLj
      unfold ET
      exact Aew
    ·by_cases hhm:h=m
     ·subst hhm; simp
     ·rw [hbelow h (by omega) hp]; rfl
   | true=>
    have hl:H4 o=true:=by
     unfold Rb at hmay
     rw [ho] at hmay
     simp only [AT] at hmay
     exact hmay.1
    have hg:gB κ ops i i=false:=by
     unfold Rb at hmay
     rw [ho] at hmay
     simpa [hl] using hmay
    obtain ⟨_,rv,ty,esz,els,tmp,e1,e2,_⟩:=Lk (T:=(tr i).T) (H:=(tr i).H) (c:=(tr i).cnt) hl (ht.step i o ho)
    have hnr:norefs els=true:=by
     have:=ht.born i o ho hl hg
     rw [e1,DC] at this
     exact this
    obtain ⟨v,g1,g2⟩:=Hd hlook (e2 (tr m).H (tr m).cnt)
    injection g1 with g1 _
    have hTv:=Ov (T':=Dj ops (tr 0).T (ET κ ops tr m) ops.size (fun j=>listed.getD j false)) g1 (by rw [Eg]; exact (ht.len (by omega)).symm)
    rw [←hTv] at g2
    have hst:=(Lk hl g2).1
    have hlo:I4 o.op=true:=by
     simp only [H4,AT] at hl; exact hl.2
    obtain ⟨n,c',w',r1,r2,r3,r4,r5,r6⟩:=Af9 hd.sr (RB hlo hd.sr hst) hnr
    have hfin:wpAny P .any ops Q fuel (listed.setIfInBounds i true) (a1.put o.dst c') w':=by
     refine hK _ w' _ loc1 m ⟨hcl',hd.ml,fun h hlt hp=>by rw [hd.lo h hlt hp]; rfl,?_,hd.ev.trans r4,fun k=>if k=i then w1.heap.size else bf k,?_,?_⟩
     ·rw [L0 hif ops.size E5 hfree]
      have hvm:ET κ ops tr m i=.jk:=by unfold ET; rw [if_pos ⟨hmi,hh⟩]
      rw [hvm,hdo]
      exact r3
     ·intro k hk hmk hLk
      by_cases hki:k=i
      ·subst hki
       simp only [lx6]
       refine ⟨hd.ev.size,hmay,o,rv,ty,esz,els,tmp,ho,e1,r5,fun d hdd hlt=>r6 d hdd (by rw [Eg]; exact hlt)⟩
      ·have hq:(k == i)=false:=by simpa using hki
       simp only [hq,I0] at hLk
       simp only [hki,lx7]
       exact (p1 k hk hmk hLk).mono hB ho (fun e=>hki e.symm) r4 hd.sr.hr
     ·intro k k' c1 c2 c3 d1 d2 d3 he
      by_cases hki:k=i <;> by_cases hki':k'=i
      ·rw [hki,hki']
      ·exfalso
       have hq:(k' == i)=false:=by simpa using hki'
       simp only [hq,I0] at d3
       simp only [hki,hki',lx6,lx7] at he
       obtain ⟨_,_,_,_,_,_,_,_,_,_,hbn,_⟩:=p1 k' d1 d2 d3
       have:=hbn.lt
       omega
      ·exfalso
       have hq:(k == i)=false:=by simpa using hki
       simp only [hq,I0] at c3
       simp only [hki,hki',lx6,lx7] at he
       obtain ⟨_,_,_,_,_,_,_,_,_,_,hbn,_⟩:=p1 k c1 c2 c3
       have:=hbn.lt
       omega
      ·have hq:(k == i)=false:=by simpa using hki
       have hq':(k' == i)=false:=by simpa using hki'
       simp only [hq,hq',I0] at c3 d3
       simp only [hki,hki',lx7] at he
       exact p2 k k' c1 c2 c3 d1 d2 d3 he
    have hw:Region.wanted o (yielded ops a1.tmps)=true:=by
     simp only [H4,AT,Option.isNone_iff_eq_none] at hl
     unfold Region.wanted; rw [hl.1]
    unfold wpOp
    rw [ho]
    simp only [hw,lx6]
    refine .inl ?_
    unfold Oper.wp
    rw [r1]
    rcases r2 with r2 | ⟨r2,r2'⟩
    ·rw [r2]; exact hfin
    ·rw [r2]; subst r2'; exact hfin
theorem Oh (hE:EnvOk P E) (hm:P.follows .mixedOrders=true) {id:Nat} (hB:F8 κ ops=true) (ht:Trace P E κ ops tr) (hs:SR w X loc (tr 0) a) {Q:Exit→Act→World→Prop}
  (hQ:∀ a' w' X' loc',SR w' X' loc' (tr ops.size) a'→Evo w X ((tr 0).hc loc) w' X' ((tr ops.size).hc loc')→Q .normal a' w'):(Code.region id ops true).wp P Q a w:=by
 refine wp_region_any hm ?_
 have hb:Below w.heap.size w { w with drawn:=w.drawn+1 }:=⟨rfl,rfl,rfl,Aw _,fun _ _=>rfl⟩
 have hf:∀ j,(Array.replicate ops.size false).getD j false=false:=by
  intro j
  rcases Ec j ops.size with h | h
  ·simp [h]
  ·simp [h]
 refine UM (w:=w) (X:=X) (loc:=loc) hE hB ht hQ ops.size (Array.replicate ops.size false) a _ X loc 0 (by simp) ⟨?_,BT _,fun h hh=>by omega,?_,Ep hb X _,fun _=>0,?_,?_⟩ ?_
 ·intro j oj hoj hLj
  have hLj':(Array.replicate ops.size false).getD j false=true:=hLj
  rw [hf] at hLj'; cases hLj'
 ·have e:Dj ops (tr 0).T (ET κ ops tr 0) ops.size (fun j=>(Array.replicate ops.size false).getD j false)=(tr 0).T:=by
   have:=LZ (ops:=ops) (T0:=(tr 0).T) (val:=ET κ ops tr 0) (L:=fun j=>(Array.replicate ops.size false).getD j false) (i:=0) (fun j _=>hf j) ops.size
   rw [B4] at this
   rw [this]; rfl
  rw [e]
  exact hs.below hb
 ·intro k _ _ hL
  rw [hf] at hL; cases hL
 ·intro k k' _ _ hL
  rw [hf] at hL; cases hL
 ·unfold NI
  refine OU (lx86 _ _) ?_
  simp
end
def Hf:List Nat→Nat→Nat
 | [],_=>0
 | i::r,j=>if (i == j)=true then 0 else Hf r j+1
def Asw (π:List Nat) (af:Array Edge):Array Edge:=af.map fun e=>{ e with on:=Hf π e.on }
def Axp (π:List Nat):Option (Nat × Bool)→Option (Nat × Bool)
 | none=>none
 | some g=>some (Hf π g.1,g.2)
def Tf (π:List Nat) (o:Oper):Oper:=⟨o.dst,o.op,o.type,o.pos,Asw π o.after,Axp π o.guard⟩
def Zh (π:List Nat):Option Oper→List Oper→List Oper
 | some o,r=>Tf π o::r
 | none,r=>r
def RH (ops:Array Oper) (π:List Nat):List Nat→List Oper
 | []=>[]
 | i::r=>Zh π ops[i]? (RH ops π r)
def CL (ops:Array Oper) (π:List Nat):Array Oper:=(RH ops π π).toArray
def G3 (π:List Nat) (n:Nat):Bool:=π.length == n && ((List.range n).all fun p=>match π[p]? with | some i=>decide (i < n) && Hf π i == p | none=>false) &&
 (List.range n).all fun i=>decide (Hf π i < n) && π[Hf π i]? == some i
theorem RI {ops:Array Oper} {π:List Nat}:∀ {l:List Nat},(∀ i ∈ l,i < ops.size)→(RH ops π l).length=l.length∧∀ p:Nat,(RH ops π l)[p]?=(l[p]?).bind fun i=>(ops[i]?).map (Tf π)
 | [],_=>⟨rfl,fun p=>by simp [RH]⟩
 | i::r,h=>by
  obtain ⟨h1,h2⟩:=RI (ops:=ops) (π:=π) (l:=r) (fun j hj=>h j (lx49 _ hj))
  have hi:=h i lx48
  have ho:ops[i]?=some ops[i]:=by simp [hi]
  rw [RH,ho]
  refine ⟨by simp [Zh,h1],fun p=>?_⟩
  cases p with
  | zero=>simp [Zh,ho]
  | succ p=>simp only [Zh,lx54,h2 p]
section
variable {P:Program} {ops:Array Oper} {π:List Nat} {Q:Exit→Act→World→Prop}
theorem H5 (h:G3 π ops.size=true):π.length=ops.size∧(∀ p i,p < ops.size→π[p]?=some i→i < ops.size∧Hf π i=p)∧(∀ p,p < ops.size→∃ i,π[p]?=some i)∧∀ i,i < ops.size→Hf π i < ops.size∧π[Hf π i]?=some i:=by
 simp only [G3,AT,lx85] at h
 obtain ⟨⟨h1,h2⟩,h3⟩:=h
 refine ⟨h1,fun p i hp hi=>?_,fun p hp=>⟨π[p]'(by omega),by simp⟩,fun i hi=>?_⟩
 ·have:=lx28.1 h2 p (IZ.2 hp)
  simp only [hi,AT,AR,lx85] at this
  exact this
 ·have:=lx28.1 h3 i (IZ.2 hi)
  simp only [AT,AR,lx85] at this
  exact this
theorem Tg:∀ {π:List Nat} {j:Nat},(∀ i ∈ π,i≠j)→Hf π j=π.length
 | [],j,_=>rfl
 | i::r,j,h=>by
  have hi:(i == j)=false:=by simpa using h i lx48
  rw [Hf,hi,if_neg (by decide),Tg (fun x hx=>h x (lx49 _ hx))]; rfl
theorem IC (h:G3 π ops.size=true):(CL ops π).size=ops.size∧(∀ i,(CL ops π)[Hf π i]?=(ops[i]?).map (Tf π))∧∀ p,p < ops.size→∃ i,i < ops.size∧Hf π i=p:=by
 obtain ⟨h1,h2,h3,h4⟩:=H5 h
 have hm:∀ i ∈ π,i < ops.size:=by
  intro i hi
  obtain ⟨p,hp⟩:=lx44.1 hi
  have hlt:=(lx22.1 hp).1
  exact (h2 p i (by omega) hp).1
 obtain ⟨g1,g2⟩:=RI (ops:=ops) (π:=π) hm
 refine ⟨by simp [CL,g1,h1],fun i=>?_,fun p hp=>?_⟩
 ·simp only [CL,lx39]
  rw [g2]
  by_cases hi:i < ops.size
  ·rw [(h4 i hi).2]; rfl
  ·have hge:Hf π i=π.length:=Tg (fun j hj e=>hi (by rw [←e]; exact hm j hj))
   rw [hge,lx30 (Aw _),Array.getElem?_eq_none (by omega)]; rfl
 ·obtain ⟨i,hi⟩:=h3 p hp
  exact ⟨i,(h2 p i hp hi).1,(h2 p i hp hi).2⟩
def RelL (π:List Nat) (n:Nat) (l l':Array Bool):Prop:=l.size=n∧l'.size=n∧∀ i,i < n→l.getD i false=l'.getD (Hf π i) false
theorem RelL.get (h:G3 π ops.size=true) {l l':Array Bool} (hr:RelL π ops.size l l') (j:Nat):l.getD j false=l'.getD (Hf π j) false:=by
 by_cases hj:j < ops.size
 ·exact hr.2.2 j hj
 ·obtain ⟨h1,h2,h3,h4⟩:=H5 h
  have hge:Hf π j=π.length:=Tg (fun i hi e=>by
   obtain ⟨p,hp⟩:=lx44.1 hi
   have hlt:=(lx22.1 hp).1
   have:=(h2 p i (by omega) hp).1
   omega)
  rw [hge,h1]
  have e1:=hr.1
  have e2:=hr.2.1
  simp [Array.getD,e1,e2,hj]
theorem Ln (h:G3 π ops.size=true) {l l':Array Bool} (hr:RelL π ops.size l l') {i:Nat} (hi:i < ops.size):i ∈ Region.ready .any ops l↔Hf π i ∈ Region.ready .any (CL ops π) l':=by
 obtain ⟨g1,g2,g3⟩:=IC h
 obtain ⟨h1,h2,h3,h4⟩:=H5 h
 have hlt:=(h4 i hi).1
 have hge:=hr.get h
 have e1:=hr.1
 have e2:=hr.2.1
 have ht:∀ (o:Oper),(∀ e ∈ o.after,Region.binds .any e=true→l.getD e.on false=true)↔∀ e ∈ (Tf π o).after,Region.binds .any e=true→l'.getD e.on false=true:=by
  intro o
  constructor
  ·intro hh e he hb
   simp only [Tf,Asw,Array.mem_map] at he
   obtain ⟨e0,q1,rfl⟩:=he
   rw [←hge e0.on]
   exact hh e0 q1 hb
  ·intro hh e he hb
   have:=hh { e with on:=Hf π e.on } (by simp only [Tf,Asw,Array.mem_map]; exact ⟨e,he,rfl⟩) hb
   rw [hge e.on]; exact this
 constructor
 ·intro hh
  obtain ⟨o,ho,k1,k2⟩:=EZ hh
  refine Pf (o:=Tf π o) (by rw [g2,ho]; rfl) ?_ ((ht o).1 k2)
  rw [He (by omega),←hge,←He (by omega)]; exact k1
 ·intro hh
  obtain ⟨o',ho',k1,k2⟩:=EZ hh
  have ho:ops[i]?=some ops[i]:=by simp [hi]
  rw [g2,ho] at ho'
  simp only [lx34,lx16] at ho'
  subst ho'
  refine Pf ho ?_ ((ht _).2 k2)
  rw [He (by omega),hge,←He (by omega)]; exact k1
theorem Th (h:G3 π ops.size=true) (T:Array Value) (g:Nat):yielded (CL ops π) T (Hf π g)=yielded ops T g:=by
 obtain ⟨g1,g2,g3⟩:=IC h
 unfold yielded
 rw [g2]
 cases ops[g]? <;> rfl
theorem UN (h:G3 π ops.size=true) (T:Array Value) (o:Oper):Region.wanted (Tf π o) (yielded (CL ops π) T)=Region.wanted o (yielded ops T):=by
 unfold Region.wanted Tf Axp
 cases hg:o.guard with
 | none=>rfl
 | some g=>simp only [Th h]
theorem Ack (h:G3 π ops.size=true) {i:Nat} {K:Act→World→Prop} {a:Act} {w:World} (hh:wpOp P (CL ops π) Q (Hf π i) K a w):wpOp P ops Q i K a w:=by
 obtain ⟨g1,g2,g3⟩:=IC h
 unfold wpOp at hh ⊢
 rw [g2] at hh
 cases ho:ops[i]? with
 | none=>rw [ho] at hh; exact hh
 | some o=>
  rw [ho] at hh
  simp only [lx34] at hh ⊢
  rw [UN h] at hh
  exact hh
theorem XQ (h:G3 π ops.size=true):∀ (fuel:Nat) (l l':Array Bool) (a:Act) (w:World),RelL π ops.size l l'→wpAny P .any (CL ops π) Q fuel l' a w→wpAny P .any ops Q fuel l a w:=by
 obtain ⟨g1,g2,g3⟩:=IC h
 obtain ⟨h1,h2,h3,h4⟩:=H5 h
 have hnil:∀ l l',RelL π ops.size l l'→(Region.ready .any ops l=[]↔Region.ready .any (CL ops π) l'=[]):=by
  intro l l' hr
  constructor
  ·intro hh
   cases hq:Region.ready .any (CL ops π) l' with
   | nil=>rfl
   | cons p r=>
    exfalso
    have hp:p ∈ Region.ready .any (CL ops π) l':=by rw [hq]; exact lx48
    obtain ⟨o,ho,_⟩:=EZ hp
    have hlt:=(lx50.1 ho).1
    obtain ⟨i,hi,rfl⟩:=g3 p (by omega)
    have:=(Ln h hr hi).2 hp
    rw [hh] at this; cases this
  ·intro hh
   cases hq:Region.ready .any ops l with
   | nil=>rfl
   | cons i r=>
    exfalso
    have hp:i ∈ Region.ready .any ops l:=by rw [hq]; exact lx48
    obtain ⟨o,ho,_⟩:=EZ hp
    have:=(Ln h hr (lx50.1 ho).1).1 hp
    rw [hh] at this; cases this
 intro fuel
 induction fuel with
 | zero=>intro l l' a w hr hh; exact ⟨(hnil l l' hr).2 hh.1,hh.2⟩
 | succ fuel ih=>
  intro l l' a w hr hh
  refine ⟨fun hq=>hh.1 ((hnil l l' hr).1 hq),fun i hi=>?_⟩
  obtain ⟨o,ho,_⟩:=EZ hi
  have hlt:=(lx50.1 ho).1
  refine Ack h (wpOp_mono (fun a w hw=>ih _ _ a w ?_ hw) (hh.2 _ ((Ln h hr hlt).1 hi)))
  refine ⟨by simp [hr.1],by simp [hr.2.1],fun j hj=>?_⟩
  have e1:=hr.1
  have e2:=hr.2.1
  have hlj:=(h4 j hj).1
  have hli:=(h4 i hlt).1
  by_cases hij:j=i
  ·subst hij
   have a1:j < l.size:=Ai
   have a2:Hf π j < l'.size:=Ai
   simp [a1,a2]
  ·have hne:Hf π i≠Hf π j:=fun e=>by
    have q1:=(h4 i hlt).2
    rw [e,(h4 j hj).2] at q1
    injection q1 with q1
    exact hij q1
   have:=hr.2.2 j hj
   simpa [Array.getD_eq_getD_getElem?,Array.getElem?_setIfInBounds_ne hne,Array.getElem?_setIfInBounds_ne (fun e:i=j=>hij e.symm)] using this
end
section
variable {P:Program} {E:Env} {w:World} {X:Nat→Prop} {loc:Nat→Option (Nat × Nat)} {a:Act} {ops:Array Oper} {tr:Nat→St} {π:List Nat}
theorem Oi (hE:EnvOk P E) (hm:P.follows .mixedOrders=true) {id:Nat} (hp:G3 π ops.size=true) (hB:F8 κ (CL ops π)=true) (ht:Trace P E κ (CL ops π) tr) (hs:SR w X loc (tr 0) a) {Q:Exit→Act→World→Prop}
  (hQ:∀ a' w' X' loc',SR w' X' loc' (tr (CL ops π).size) a'→Evo w X ((tr 0).hc loc) w' X' ((tr (CL ops π).size).hc loc')→Q .normal a' w'):(Code.region id ops true).wp P Q a w:=by
 refine wp_region_any hm ?_
 have hb:Below w.heap.size w { w with drawn:=w.drawn+1 }:=⟨rfl,rfl,rfl,Aw _,fun _ _=>rfl⟩
 have hf:∀ n j,(Array.replicate n false).getD j false=false:=by
  intro n j
  rcases Ec j n with h | h
  ·simp [h]
  ·simp [h]
 obtain ⟨g1,_,_⟩:=IC hp
 refine XQ hp ops.size (Array.replicate ops.size false) (Array.replicate (CL ops π).size false) a _ ⟨by simp,by simp [g1],fun i hi=>by rw [hf,hf]⟩ ?_
 rw [←g1]
 refine UM (w:=w) (X:=X) (loc:=loc) hE hB ht hQ (CL ops π).size (Array.replicate (CL ops π).size false) a _ X loc 0 (by simp) ⟨?_,BT _,fun h hh=>by omega,?_,Ep hb X _,fun _=>0,?_,?_⟩ ?_
 ·intro j oj hoj hLj
  have hLj':(Array.replicate (CL ops π).size false).getD j false=true:=hLj
  rw [hf] at hLj'; cases hLj'
 ·have e:Dj (CL ops π) (tr 0).T (ET κ (CL ops π) tr 0) (CL ops π).size (fun j=>(Array.replicate (CL ops π).size false).getD j false)=(tr 0).T:=by
   have:=LZ (ops:=CL ops π) (T0:=(tr 0).T) (val:=ET κ (CL ops π) tr 0) (L:=fun j=>(Array.replicate (CL ops π).size false).getD j false) (i:=0) (fun j _=>hf _ j) (CL ops π).size
   rw [B4] at this
   rw [this]; rfl
  rw [e]
  exact hs.below hb
 ·intro k _ _ hL
  rw [hf] at hL; cases hL
 ·intro k k' _ _ hL
  rw [hf] at hL; cases hL
 ·unfold NI
  refine OU (lx86 _ _) ?_
  simp
end
def Aff:Operand→Bool
 | .const (.slice none 0 0)=>true
 | _=>false
def AU:Op→Bool
 | .binOp _ _ _ y _=>!Aff y
 | .move _ | .assign _ | .pick .. | .unOp .. | .convert .. | .field .. | .extract .. | .build .. | .index .. | .makeFunc ..=>true
 | .call { callee:=.builtin .min,.. } | .call { callee:=.builtin .max,.. }=>true
 | _=>false
section
variable {P:Program} {E:Env} {ops:Array Oper}
theorem UO {op:Op} (h:AU op=true) (T:List AV) (H H2:List Blk) (c c2:Nat):AH P ⟨T,H,c⟩ op=AH P ⟨T,H2,c2⟩ op:=by
 cases op with
 | call cl=>
  obtain ⟨cal,args,ats⟩:=cl
  cases cal with
  | builtin b=>cases b <;> first | (simp [AU] at h; done) | rfl
  | _=>simp [AU] at h
 | makeFunc f first caps=>cases f <;> rfl
 | binOp op t x y t'=>
  simp only [AU,JK] at h
  have hn:∀ u,Ac7 P op t u y=none:=by
   intro u
   unfold Ac7
   split
   ·simp [Aff] at h
   ·rfl
  simp only [AH,Rv,hn]
 | _=>first | (simp [AU] at h; done) | rfl
theorem KW {op:Op} (h:AU op=true):Cs op=false∧Cy κ op=false:=by
 cases op with
 | call cl=>
  obtain ⟨cal,args,ats⟩:=cl
  cases cal with
  | builtin b=>cases b <;> first | (simp [AU] at h; done) | exact ⟨rfl,rfl⟩
  | _=>simp [AU] at h
 | _=>first | (simp [AU] at h; done) | exact ⟨rfl,rfl⟩
theorem NJ {o:Oper} (h:AU o.op=true) {T T':List AV} {H H1 H2:List Blk} {c c1 c2:Nat} (hs:Ah P E ops ⟨T,H,c⟩ o=some ⟨T',H1,c1⟩):Ah P E ops ⟨T,H2,c2⟩ o=some ⟨T',H2,c2⟩:=by
 obtain ⟨k1,k2⟩:=KW (κ:=fun _=>false) h
 have k2:=Za k2
 have p1:∀ H c,AZ E ⟨T,H,c⟩ o.op=true:=fun H c=>by simp [AZ,k1,k2]
 have p2:∀ H c,JG P E ⟨T,H,c⟩ o.op=AH P ⟨T,H,c⟩ o.op:=fun H c=>by simp [JG,k1]
 have r:=UO (P:=P) h T H H2 c c2
 have hg:∀ j,Ap ops ⟨T,H,c⟩ j=Ap ops ⟨T,H2,c2⟩ j:=fun j=>rfl
 unfold Ah at hs ⊢
 simp only [p1,p2,lx6] at hs ⊢
 rw [←r]
 split at hs
 ·simp only [lx24] at hs
  obtain ⟨v,hv,hs⟩:=hs
  rw [B5] at hs
  cases hs
  rw [hv]; simp [B5]
 ·rename_i j want hgd
  rw [←hg j]
  split at hs
  ·rename_i b hb
   simp only [lx24] at hs ⊢
   obtain ⟨v,hv,hs⟩:=hs
   rw [B5] at hs
   cases hs
   exact ⟨v,hv,by rw [B5]⟩
  ·rw [B5] at hs
   cases hs
   rw [B5]
  ·cases hs
structure Past where
 at_:Nat
 H:List Blk
 c:Nat
structure Did where
 at_:Nat
 o:Oper
 T:List AV
 T':List AV
def Chk (κ:Nat→Bool) (ops:Array Oper) (i k:Nat) (p:Prop):Prop:=gB κ ops i k=false→p
def KX (κ:Nat→Bool) (ops:Array Oper) (i:Nat) (H':List Blk):Op→Prop
 | .buildSlice ..=>Chk κ ops i i (norefs (Dh H')=true)
 | _=>True
def Ti (P:Program) (E:Env) (ops:Array Oper) (i:Nat) (o:Oper) (T T':List AV):List Past→Prop
 | []=>True
 | h::r=>Chk E.hb ops h.at_ i (Ah P E ops ⟨T,h.H,h.c⟩ o=some ⟨T',h.H,h.c⟩)∧Ti P E ops i o T T' r
def chkF (P:Program) (E:Env) (ops:Array Oper) (k:Nat) (H:List Blk) (c:Nat):List Did→Prop
 | []=>True
 | d::r=>Chk E.hb ops d.at_ k (Ah P E ops ⟨d.T,H,c⟩ d.o=some ⟨d.T',H,c⟩)∧chkF P E ops k H c r
theorem UP {i o T T'}:∀ {hs:List Past},Ti P E ops i o T T' hs→∀ h ∈ hs,Chk E.hb ops h.at_ i (Ah P E ops ⟨T,h.H,h.c⟩ o=some ⟨T',h.H,h.c⟩)
 | [],_,h,hm=>by cases hm
 | x::r,hc,h,hm=>by
  rcases lx59.1 hm with rfl | hm
  ·exact hc.1
  ·exact UP hc.2 h hm
theorem UQ {k H c}:∀ {ds:List Did},chkF P E ops k H c ds→∀ d ∈ ds,Chk E.hb ops d.at_ k (Ah P E ops ⟨d.T,H,c⟩ d.o=some ⟨d.T',H,c⟩)
 | [],_,h,hm=>by cases hm
 | x::r,hc,h,hm=>by
  rcases lx59.1 hm with rfl | hm
  ·exact hc.1
  ·exact UQ hc.2 h hm
def DM (P:Program) (E:Env) (ops:Array Oper) (K:St→Prop):List Oper→Nat→St→List Past→List Did→Prop
 | [],_,s,_,_=>K s
 | o::r,i,s,hs,ds=>∃ s',Ah P E ops s o=some s'∧
   if Cy E.hb o.op=false then
    if AU o.op=true then DM P E ops K r (i+1) s' hs ds
    else (s'.H=s.H∧s'.cnt=s.cnt)∧Ti P E ops i o s.T s'.T hs∧DM P E ops K r (i+1) s' hs (⟨i,o,s.T,s'.T⟩::ds)
   else chkF P E ops i s'.H s'.cnt ds∧KX E.hb ops i s'.H o.op∧DM P E ops K r (i+1) s' (⟨i,s.H,s.cnt⟩::hs) ds
theorem Fb {K:St→Prop}:∀ (l:List Oper) (i:Nat) (s:St) (hs:List Past) (ds:List Did),DM P E ops K l i s hs ds↔∃ s1,DM P E ops (·=s1) l i s hs ds∧K s1
 | [],i,s,hs,ds=>by simp [DM]
 | o::r,i,s,hs,ds=>by
  simp only [DM]
  constructor
  ·rintro ⟨s',h1,h2⟩
   split at h2
   ·split at h2
    ·obtain ⟨s1,g1,g2⟩:=(Fb r _ _ _ _).1 h2
     rename_i hp hn
     exact ⟨s1,⟨s',h1,by rw [if_pos hp,if_pos hn]; exact g1⟩,g2⟩
    ·obtain ⟨s1,g1,g2⟩:=(Fb r _ _ _ _).1 h2.2.2
     rename_i hp hn
     exact ⟨s1,⟨s',h1,by rw [if_pos hp,if_neg hn]; exact ⟨h2.1,h2.2.1,g1⟩⟩,g2⟩
   ·obtain ⟨s1,g1,g2⟩:=(Fb r _ _ _ _).1 h2.2.2
    rename_i hp
    exact ⟨s1,⟨s',h1,by rw [if_neg hp]; exact ⟨h2.1,h2.2.1,g1⟩⟩,g2⟩
  ·rintro ⟨s1,⟨s',h1,h2⟩,g2⟩
   refine ⟨s',h1,?_⟩
   split at h2
   ·split at h2
    ·rename_i hp hn
     rw [if_pos hp,if_pos hn]
     exact (Fb r _ _ _ _).2 ⟨s1,h2,g2⟩
    ·rename_i hp hn
     rw [if_pos hp,if_neg hn]
     exact ⟨h2.1,h2.2.1,(Fb r _ _ _ _).2 ⟨s1,h2.2.2,g2⟩⟩
   ·rename_i hp
    rw [if_neg hp]
    exact ⟨h2.1,h2.2.1,(Fb r _ _ _ _).2 ⟨s1,h2.2.2,g2⟩⟩
def Fg (P:Program) (E:Env) (ops:Array Oper) (s:St):Nat→St
 | 0=>s
 | i+1=>match ops[i]? with
  | some o=>(Ah P E ops (Fg P E ops s i) o).getD (Fg P E ops s i)
  | none=>Fg P E ops s i
theorem L1 {s0 s1:St}:∀ (l:List Oper) (i:Nat) (hs:List Past) (ds:List Did),ops.toList.drop i=l→i≤ops.size→
  (∀ j o,j < i→ops[j]?=some o→Ah P E ops (Fg P E ops s0 j) o=some (Fg P E ops s0 (j+1)))→
  (∀ j,j < i→hd E.hb ops (Fg P E ops s0) j→⟨j,(Fg P E ops s0 j).H,(Fg P E ops s0 j).cnt⟩ ∈ hs)→
  (∀ j o,j < i→ops[j]?=some o→Cy E.hb o.op=false→(Fg P E ops s0 (j+1)).H=(Fg P E ops s0 j).H∧(Fg P E ops s0 (j+1)).cnt=(Fg P E ops s0 j).cnt)→
  (∀ j o,j < i→ops[j]?=some o→Cy E.hb o.op=false→AU o.op=false→⟨j,o,(Fg P E ops s0 j).T,(Fg P E ops s0 (j+1)).T⟩ ∈ ds)→
  (∀ j o h,j < i→ops[j]?=some o→Cy E.hb o.op=false→h < j→hd E.hb ops (Fg P E ops s0) h→gB E.hb ops h j=false→
   Ah P E ops ⟨(Fg P E ops s0 j).T,(Fg P E ops s0 h).H,(Fg P E ops s0 h).cnt⟩ o=some ⟨(Fg P E ops s0 (j+1)).T,(Fg P E ops s0 h).H,(Fg P E ops s0 h).cnt⟩)→
  (∀ j o h,h < i→ops[j]?=some o→Cy E.hb o.op=false→j < h→hd E.hb ops (Fg P E ops s0) h→before ops j h=false→
   Ah P E ops ⟨(Fg P E ops s0 j).T,(Fg P E ops s0 (h+1)).H,(Fg P E ops s0 (h+1)).cnt⟩ o=some ⟨(Fg P E ops s0 (j+1)).T,(Fg P E ops s0 (h+1)).H,(Fg P E ops s0 (h+1)).cnt⟩)→
  (∀ j o,j < i→ops[j]?=some o→H4 o=true→gB E.hb ops j j=false→norefs (Dh (Fg P E ops s0 (j+1)).H)=true)→
  DM P E ops (·=s1) l i (Fg P E ops s0 i) hs ds→Trace P E E.hb ops (Fg P E ops s0)∧Fg P E ops s0 ops.size=s1
 | [],i,hs,ds,hl,hi,h1,h2,hk,h3,h4,h5,h6,h=>by
  have E5:i=ops.size:=by
   rcases Ec i ops.size with hlt | hge
   ·have:i < ops.toList.length:=by simpa using hlt
    rw [lx75 this] at hl; cases hl
   ·omega
  subst E5
  refine ⟨⟨fun j o ho=>h1 j o (lx50.1 ho).1 ho,fun j o ho=>hk j o (lx50.1 ho).1 ho,fun j o k ho hp hk hh hb=>h4 j o k (lx50.1 ho).1 ho hp hk hh hb,
   fun j o k ho hp hk hh hb=>h5 j o k ?_ ho hp hk hh hb,fun j o ho hl hg=>h6 j o (lx50.1 ho).1 ho hl hg⟩,h⟩
  obtain ⟨ok,hok,_⟩:=hh
  exact (lx50.1 hok).1
 | o::r,i,hs,ds,hl,hi,h1,h2,hk,h3,h4,h5,h6,h=>by
  have hlt:i < ops.toList.length:=by
   rcases Ec i ops.toList.length with h | h
   ·exact h
   ·rw [List.drop_eq_nil_of_le h] at hl; cases hl
  have hlt':i < ops.size:=by simpa using hlt
  rw [lx75 hlt] at hl
  injection hl with ho0 hr
  have ho:ops[i]?=some o:=by rw [←ho0]; simp [hlt']
  obtain ⟨s',AG,hrest⟩:=h
  have hs':Fg P E ops s0 (i+1)=s':=by simp only [Fg,ho,AG,lx10]
  have n1:∀ j o',j < i+1→ops[j]?=some o'→Ah P E ops (Fg P E ops s0 j) o'=some (Fg P E ops s0 (j+1)):=by
   intro j o' hj hoj
   rcases Ec j i with hji | hji
   ·exact h1 j o' hji hoj
   ·have:j=i:=by omega
    subst this
    rw [ho] at hoj; cases hoj
    rw [hs']; exact AG
  rw [←hs'] at hrest
  cases hp:Cy E.hb o.op with
  | false=>
   rw [hp,if_pos rfl] at hrest
   have nh:¬ hd E.hb ops (Fg P E ops s0) i:=by
    rintro ⟨o',ho',hq⟩
    rw [ho] at ho'; cases ho'
    rw [hp] at hq; cases hq
   have n2:∀ j,j < i+1→hd E.hb ops (Fg P E ops s0) j→⟨j,(Fg P E ops s0 j).H,(Fg P E ops s0 j).cnt⟩ ∈ hs:=by
    intro j hj hh
    rcases Ec j i with hji | hji
    ·exact h2 j hji hh
    ·have:j=i:=by omega
     subst this; exact absurd hh nh
   have n5:∀ j o' h,h < i+1→ops[j]?=some o'→Cy E.hb o'.op=false→j < h→hd E.hb ops (Fg P E ops s0) h→before ops j h=false→
     Ah P E ops ⟨(Fg P E ops s0 j).T,(Fg P E ops s0 (h+1)).H,(Fg P E ops s0 (h+1)).cnt⟩ o'=some ⟨(Fg P E ops s0 (j+1)).T,(Fg P E ops s0 (h+1)).H,(Fg P E ops s0 (h+1)).cnt⟩:=by
    intro j o' k hk hoj hpj hjk hh hb
    rcases Ec k i with hki | hki
    ·exact h5 j o' k hki hoj hpj hjk hh hb
    ·have:k=i:=by omega
     subst this; exact absurd hh nh
   have n6:∀ j o',j < i+1→ops[j]?=some o'→H4 o'=true→gB E.hb ops j j=false→norefs (Dh (Fg P E ops s0 (j+1)).H)=true:=by
    intro j o' hj hoj hl hg
    rcases Ec j i with hji | hji
    ·exact h6 j o' hji hoj hl hg
    ·have:j=i:=by omega
     subst this
     rw [ho] at hoj; cases hoj
     simp only [H4,AT] at hl
     rw [Y9 (NG hl.2).1] at hp; cases hp
   have nk:((Fg P E ops s0 (i+1)).H=(Fg P E ops s0 i).H∧(Fg P E ops s0 (i+1)).cnt=(Fg P E ops s0 i).cnt)→∀ j o',j < i+1→ops[j]?=some o'→Cy E.hb o'.op=false→
     (Fg P E ops s0 (j+1)).H=(Fg P E ops s0 j).H∧(Fg P E ops s0 (j+1)).cnt=(Fg P E ops s0 j).cnt:=by
    intro hki j o' hj hoj hpj
    rcases Ec j i with hji | hji
    ·exact hk j o' hji hoj hpj
    ·have:j=i:=by omega
     subst this; exact hki
   cases hn:AU o.op with
   | true=>
    rw [hn,if_pos rfl] at hrest
    have hki:=M4 (s:=Fg P E ops s0 i) (by
     obtain ⟨k1,k2⟩:=KW (κ:=E.hb) hn
     simp [AZ,k1,Za k2]) (n1 i o (by omega) ho)
    refine L1 r (i+1) hs ds hr (by omega) n1 n2 (nk hki) ?_ ?_ n5 n6 hrest
    ·intro j o' hj hoj hpj hnj
     rcases Ec j i with hji | hji
     ·exact h3 j o' hji hoj hpj hnj
     ·have:j=i:=by omega
      subst this
      rw [ho] at hoj; cases hoj
      rw [hn] at hnj; cases hnj
    ·intro j o' k hj hoj hpj hkj hh hb
     rcases Ec j i with hji | hji
     ·exact h4 j o' k hji hoj hpj hkj hh hb
     ·have:j=i:=by omega
      subst this
      rw [ho] at hoj; cases hoj
      exact NJ hn (n1 j o (by omega) ho)
   | false=>
    rw [hn,if_neg (by decide)] at hrest
    refine L1 r (i+1) hs _ hr (by omega) n1 n2 (nk hrest.1) ?_ ?_ n5 n6 hrest.2.2
    ·intro j o' hj hoj hpj hnj
     rcases Ec j i with hji | hji
     ·exact lx49 _ (h3 j o' hji hoj hpj hnj)
     ·have:j=i:=by omega
      subst this
      rw [ho] at hoj; cases hoj
      exact lx48
    ·intro j o' k hj hoj hpj hkj hh hb
     rcases Ec j i with hji | hji
     ·exact h4 j o' k hji hoj hpj hkj hh hb
     ·have:j=i:=by omega
      subst this
      rw [ho] at hoj; cases hoj
      exact UP hrest.2.1 _ (h2 k hkj hh) hb
  | true=>
   rw [hp,if_neg (by decide)] at hrest
   refine L1 r (i+1) _ ds hr (by omega) n1 ?_ ?_ ?_ ?_ ?_ ?_ hrest.2.2
   ·intro j hj hh
    rcases Ec j i with hji | hji
    ·exact lx49 _ (h2 j hji hh)
    ·have:j=i:=by omega
     subst this; exact lx48
   ·intro j o' hj hoj hpj
    rcases Ec j i with hji | hji
    ·exact hk j o' hji hoj hpj
    ·exact Aeo
   ·intro j o' hj hoj hpj hnj
    rcases Ec j i with hji | hji
    ·exact h3 j o' hji hoj hpj hnj
    ·exact Aeo
   ·intro j o' k hj hoj hpj hkj hh hb
    rcases Ec j i with hji | hji
    ·exact h4 j o' k hji hoj hpj hkj hh hb
    ·exact Aeo
   ·intro j o' k hk hoj hpj hjk hh hb
    rcases Ec k i with hki | hki
    ·exact h5 j o' k hki hoj hpj hjk hh hb
    ·have:k=i:=by omega
     subst this
     cases hnj:AU o'.op with
     | true=>exact NJ hnj (n1 j o' (by omega) hoj)
     | false=>exact UQ hrest.1 _ (h3 j o' hjk hoj hpj hnj) (by rw [Axo (by unfold B6; rw [hoj]; exact hpj)]; exact hb)
   ·intro j o' hj hoj hl hg
    rcases Ec j i with hji | hji
    ·exact h6 j o' hji hoj hl hg
    ·have:j=i:=by omega
     subst this
     rw [ho] at hoj; cases hoj
     have hst:=n1 j o (by omega) ho
     obtain ⟨_,rv,ty,esz,els,tmp,e1,_,e3⟩:=Lk (T:=(Fg P E ops s0 j).T) (H:=(Fg P E ops s0 j).H) (c:=(Fg P E ops s0 j).cnt) hl hst
     by_cases hb:∃ t n parts,o.op=.buildSlice t n parts
     ·obtain ⟨t,n,parts,hb⟩:=hb
      have:=hrest.2.1
      rw [hb] at this
      exact this hg
     ·rw [e1,DC]
      exact e3 fun t n parts e=>hb ⟨t,n,parts,e⟩
theorem I7 {s0 s1:St} (h:DM P E ops (·=s1) ops.toList 0 s0 [] []):∃ tr,Trace P E E.hb ops tr∧tr 0=s0∧tr ops.size=s1:=by
 obtain ⟨h1,h2⟩:=L1 (s0:=s0) (s1:=s1) ops.toList 0 [] [] rfl (BT _) (fun j o hj=>by omega) (fun j hj=>by omega) (fun j o hj=>by omega) (fun j o hj=>by omega) (fun j o k hj=>by omega) (fun j o k hk=>by omega) (fun j o hj=>by omega) h
 exact ⟨_,h1,rfl,h2⟩
theorem Zi {op:Op} (h1:Cs op=false) (h2:isHeapOp op=false):Cy κ op=false:=by
 unfold Cy
 split <;> first | rfl | (simp [Cs] at h1; done) | (simp [isHeapOp] at h2; done)
theorem Afg {s:St} {op:Op} (hp:AZ E s op=true):Cy E.hb op=false:=by
 cases hc:Cs op with
 | false=>
  refine Zi hc ?_
  unfold AZ at hp
  rw [hc] at hp
  simpa using hp
 | true=>
  unfold Cy
  split
  all_goals first | rfl | (simp [Cs] at hc; done) | skip
  rename_i g as ts
  unfold AZ at hp
  rw [hc,if_pos rfl] at hp
  have ht:∃ l,Fj s (.call ⟨.value (.func g),as,ts⟩)=some (g,l):=⟨_,rfl⟩
  obtain ⟨l,ht⟩:=ht
  rw [ht] at hp
  simp only at hp
  simp [Env.hb,hp]
theorem Ik {s1:St}:∀ (l:List Oper) (i:Nat) (s:St) (ds:List Did),DP P E ops l s=some s1→DM P E ops (·=s1) l i s [] ds
 | [],i,s,ds,h=>by simp only [DP,lx16] at h; exact h
 | o::r,i,s,ds,h=>by
  simp only [DP] at h
  split at h
  ·rename_i hp
   split at h
   ·rename_i s' hs'
    refine ⟨s',hs',?_⟩
    have hh:Cy E.hb o.op=false:=Afg hp
    rw [if_pos hh]
    split
    ·exact Ik r _ _ _ h
    ·exact ⟨M4 hp hs',trivial,Ik r _ _ _ h⟩
   ·cases h
  ·cases h
theorem EU {s1:St}:∀ (l:List Oper) (i:Nat) (s:St) (ds:List Did),l.any Fl=false→DM P E ops (·=s1) l i s [] ds→DP P E ops l s=some s1
 | [],i,s,ds,_,h=>by simp only [DP]; exact congrArg some h
 | o::r,i,s,ds,hh,h=>by
  simp only [List.any_cons,JL] at hh
  have hp:AZ E s o.op=true:=by
   cases hq:AZ E s o.op with
   | true=>rfl
   | false=>rw [Og hq] at hh; simp at hh
  obtain ⟨s',h1,h2⟩:=h
  have hq:Cy E.hb o.op=false:=by
   have:=hh.1
   simp only [Fl,JL] at this
   exact Zi this.1 this.2
  rw [if_pos hq] at h2
  simp only [DP,hp,lx6,h1]
  split at h2
  ·exact EU r _ _ _ hh.2 h2
  ·exact EU r _ _ _ hh.2 h2.2.2
def dpA (P:Program) (E:Env) (ops:Array Oper) (K:St→Prop) (o:Oper) (r:List Oper) (i:Nat) (s:St) (hs:List Past) (ds:List Did) (p n:Bool):Option St→Prop
 | some s'=>if p=false then
    if n=true then DM P E ops K r (i+1) s' hs ds
    else (s'.H=s.H∧s'.cnt=s.cnt)∧Ti P E ops i o s.T s'.T hs∧DM P E ops K r (i+1) s' hs (⟨i,o,s.T,s'.T⟩::ds)
   else chkF P E ops i s'.H s'.cnt ds∧KX E.hb ops i s'.H o.op∧DM P E ops K r (i+1) s' (⟨i,s.H,s.cnt⟩::hs) ds
 | none=>False
variable {K:St→Prop} {o:Oper} {r:List Oper} {i:Nat} {s:St} {hs:List Past} {ds:List Did}
theorem RJ:DM P E ops K [] i s hs ds=K s:=rfl
theorem Pg:DM P E ops K (o::r) i s hs ds=dpA P E ops K o r i s hs ds (Cy E.hb o.op) (AU o.op) (Ah P E ops s o):=by
 simp only [DM,dpA]
 cases Ah P E ops s o with
 | none=>simp
 | some s'=>simp
theorem Afh (s':St):dpA P E ops K o r i s hs ds false true (some s')=DM P E ops K r (i+1) s' hs ds:=rfl
theorem Afi (T T':List AV) (H H':List Blk) (c c':Nat):dpA P E ops K o r i ⟨T,H,c⟩ hs ds false false (some ⟨T',H',c'⟩)=((H'=H∧c'=c)∧Ti P E ops i o T T' hs∧DM P E ops K r (i+1) ⟨T',H',c'⟩ hs (⟨i,o,T,T'⟩::ds)):=rfl
theorem Aq3 (n:Bool) (T T':List AV) (H H':List Blk) (c c':Nat):dpA P E ops K o r i ⟨T,H,c⟩ hs ds true n (some ⟨T',H',c'⟩)=(chkF P E ops i H' c' ds∧KX E.hb ops i H' o.op∧DM P E ops K r (i+1) ⟨T',H',c'⟩ (⟨i,H,c⟩::hs) ds):=rfl
theorem UR (T T':List AV):Ti P E ops i o T T' []=True:=rfl
theorem RK (T T':List AV) (j:Nat) (H:List Blk) (c:Nat):Ti P E ops i o T T' (⟨j,H,c⟩::hs)=(Chk E.hb ops j i (Ah P E ops ⟨T,H,c⟩ o=some ⟨T',H,c⟩)∧Ti P E ops i o T T' hs):=rfl
theorem US (H:List Blk) (c:Nat):chkF P E ops i H c []=True:=rfl
theorem RL (H:List Blk) (c:Nat) (j:Nat) (o':Oper) (T T':List AV):chkF P E ops i H c (⟨j,o',T,T'⟩::ds)=(Chk E.hb ops j i (Ah P E ops ⟨T,H,c⟩ o'=some ⟨T',H,c⟩)∧chkF P E ops i H c ds):=rfl
theorem NK (H':List Blk) (t:TypeId):KX E.hb ops i H' (.alloc t)=True:=rfl
theorem RM (H':List Blk) (t:TypeId) (x:Operand):KX E.hb ops i H' (.box t x)=True:=rfl
theorem NL (H':List Blk) (t:TypeId) (x y:Operand):KX E.hb ops i H' (.store t x y)=True:=rfl
theorem Ph (H':List Blk) (t:TypeId) (x y:Operand):KX E.hb ops i H' (.makeSlice t x y)=True:=rfl
theorem Pj (H':List Blk) (c:Call):KX E.hb ops i H' (.call c)=True:=rfl
theorem NM (H':List Blk) (t:TypeId) (n:Nat) (ps:Array (Nat × Operand)):KX E.hb ops i H' (.buildSlice t n ps)=Chk E.hb ops i i (norefs (Dh H')=true):=rfl
theorem NN (B:Blk):Dh [B]=B.els:=rfl
theorem L2 (A B:Blk) (r:List Blk):Dh (A::B::r)=Dh (B::r):=rfl
theorem UT (j k:Nat):Chk E.hb ops j k True=True:=by simp [Chk]
theorem Ac {j k:Nat} {p:Prop} (h:gB E.hb ops j k=true):Chk E.hb ops j k p:=fun h'=>by rw [h] at h'; cases h'
end
end Go.SX
