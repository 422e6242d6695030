/-
  Lemmas towards ModesPriority (joined texts: SXP).
  Conditions: none.
-/
import Derived.Test.YtdjpkhjaibdogaaGreatL01
import Derived.Test.YtdjpkhjaibdogaaGreatL08
import Derived.Orders
set_option linter.unusedSimpArgs false
set_option linter.unusedVariables false
set_option maxRecDepth 100000
namespace Go.SX
open Go.RowKit (Below)
section
variable {P:Program} {E:Env} {w:World} {X:Nat→Prop} {loc:Nat→Option (Nat × Nat)} {s:St} {a:Act}
def Pr (P:Program) (w:World) (X:Nat→Prop) (loc:Nat→Option (Nat × Nat)) (s:St) (a:Act) (all:Array Oper) (o:Oper) (s':St):Prop:=
 ∀ (K:Act→World→Prop) (Q:Exit→Act→World→Prop),
  (∀ c w' X' loc',SR w' X' loc' s' (a.put o.dst c)→Evo w X (s.hc loc) w' X' (s'.hc loc')→K (a.put o.dst c) w')→
  if Region.wanted o (yielded all a.tmps)=true then o.wp P a w K Q else K (a.put o.dst undef) w
theorem Vd (s:St) (d:Option Nat) (v:AV) (loc):(s.put d v).hc loc=s.hc loc:=by cases d <;> rfl
theorem Aqz (hE:EnvOk P E) (hs:SR w X loc s a) {o:Oper} {s':St} (h:Fe P E s o=some s') (K:Act→World→Prop) (Q:Exit→Act→World→Prop)
  (hK:∀ c w' X' loc',SR w' X' loc' s' (a.put o.dst c)→Evo w X (s.hc loc) w' X' (s'.hc loc')→K (a.put o.dst c) w'):o.wp P a w K Q:=by
 unfold Fe at h
 split at h
 ·split at h
  ·rename_i g args ht
   split at h
   ·rename_i r H' cnt' hr
    cases h
    obtain ⟨hc,hcall⟩:=hE.h _ _ _ _ _ _ _ hr
    obtain ⟨cargs,e1,e2⟩:=Ad4 hs ht hc
    have hrun:=EK e1
    unfold Oper.wp
    rw [hrun]
    refine (hcall w X loc cargs hs.hr e2).mono ?_
    rintro e w' ⟨X',loc',c,he,h1,h2,h3⟩
    subst he
    have base:SR w' X' loc' { s with H:=H',cnt:=cnt' } a:=⟨h1,hs.tm.mono h3 hs.hr,hs.df⟩
    exact hK _ _ X' loc' (base.put o.dst h2) (by rw [Vd]; exact h3)
   ·cases h
  ·cases h
 ·obtain ⟨n,c,w',X',loc',h1,h2,h3,h4⟩:=Akb hs h
  exact Bdd
theorem Ar0 (hE:EnvOk P E) (hs:SR w X loc s a) {o:Oper} {v:AV} (h:Jv P E s o.op=some v) (K:Act→World→Prop) (Q:Exit→Act→World→Prop)
  (hK:∀ c w' X' loc',SR w' X' loc' (s.put o.dst v) (a.put o.dst c)→Evo w X (s.hc loc) w' X' ((s.put o.dst v).hc loc')→K (a.put o.dst c) w'):o.wp P a w K Q:=by
 obtain ⟨c,h1,h2⟩:=U8 hE hs h
 have hq:=h2 w ⟨rfl,rfl,rfl,Av _,fun _ _=>rfl⟩
 refine Oper.wp_of_quiet (C:=Below w.heap.size w) (K:=fun a'=>∃ c,a'=a.put o.dst c∧SR w X loc (s.put o.dst v) (a.put o.dst c)) ⟨rfl,rfl,rfl,Av _,fun _ _=>rfl⟩ ?_ ⟨c,h2,c,rfl,hs.put o.dst h1⟩
 rintro a' w' hw ⟨c',rfl,hsr⟩
 exact hK c' w' X loc (hsr.below hw) (by rw [Vd]; exact DL hw X _)
theorem Tv (hE:EnvOk P E) (hs:SR w X loc s a) {all:Array Oper} {o:Oper} {s':St} (h:Ag P E all s o=some s'):Pr P w X loc s a all o s':=by
 intro K Q hK
 unfold Ag at h
 have skip:s'=s.put o.dst .un→K (a.put o.dst undef) w:=by
  intro e; subst e
  exact hK _ _ X loc (hs.put o.dst .un) (by rw [Vd]; exact Evo.refl _ _ _)
 split at h
 ·rename_i hg
  have hw:Region.wanted o (yielded all a.tmps)=true:=by unfold Region.wanted; rw [hg]
  rw [if_pos hw]
  exact Bdb
 ·rename_i j want hg
  split at h
  ·rename_i b hgv
   have hy:=Mb hs hgv
   have hw:Region.wanted o (yielded all a.tmps)=(b == want):=by
    unfold Region.wanted; rw [hg]; simp only [hy]; cases b <;> cases want <;> rfl
   rw [hw]
   by_cases hbw:b=want
   ·subst hbw
    simp only [lx74,lx8] at h ⊢
    exact Bdb
   ·have hbf:(b == want)=false:=by simpa using hbw
    rw [hbf,if_neg (by simp)]
    simp only [hbw,lx9] at h
    split at h
    ·simp only [lx34,lx16] at h
     exact skip h.symm
    ·cases h; exact skip rfl
  ·rename_i hgv
   have hy:=QR hs hgv
   have hw:Region.wanted o (yielded all a.tmps)=false:=by
    unfold Region.wanted; rw [hg]; simp only [hy]; rfl
   rw [hw,if_neg (by simp)]
   cases h
   exact skip rfl
  ·cases h
theorem QW (hE:EnvOk P E) (hs:SR w X loc s a) {all:Array Oper} {o:Oper} {s':St} (h:Ej P E all s o=some s'):Pr P w X loc s a all o s':=by
 unfold Ej Fb at h
 split at h
 rotate_left
 ·exact Tv hE hs h
 rename_i hc
 simp only [AH,Option.isNone_iff_eq_none] at hc
 intro K Q hK
 have hw:Region.wanted o (yielded all a.tmps)=true:=by unfold Region.wanted; rw [hc.2]
 rw [if_pos hw]
 obtain ⟨n,c,w',X',loc',h1,h2,h3,h4⟩:=Aat hs hc.1.2 h
 exact Bdd
theorem Tw (hE:EnvOk P E) {all:Array Oper} (Q:Exit→Act→World→Prop):∀ (n k:Nat) {w:World} {X:Nat→Prop} {loc:Nat→Option (Nat × Nat)} {s s':St} {a:Act},
  k+n=all.size→Ff P E all (all.toList.drop k) s=some s'→SR w X loc s a→
  (∀ a' w' X' loc',SR w' X' loc' s' a'→Evo w X (s.hc loc) w' X' (s'.hc loc')→Q .normal a' w')→wpOps P all Q (List.range' k n) a w
 | 0,k,w,X,loc,s,s',a,hk,h,hs,hQ=>by
  rw [lx75 (by simp; omega)] at h
  simp only [Ff,lx16] at h
  subst h
  exact hQ _ _ X loc hs (Evo.refl _ _ _)
 | n+1,k,w,X,loc,s,s',a,hk,h,hs,hQ=>by
  have hlt:k < all.size:=An
  rw [lx76 (by simpa using hlt)] at h
  simp only [Ff] at h
  split at h
  ·rename_i s1 h1
   have hst:=QW hE hs h1
   have hget:all[k]?=some all[k]:=by simp [hlt]
   simp only [List.range'_succ,wpOps,hget]
   have hKK:∀ a' w' X' loc',SR w' X' loc' s1 a'→Evo w X (s.hc loc) w' X' (s1.hc loc')→wpOps P all Q (List.range' (k+1) n) a' w':=by
    intro a' w' X' loc' g1 g2
    exact Tw hE Q n (k+1) (by omega) h g1 (fun a2 w2 X2 loc2 k1 k2=>hQ a2 w2 X2 loc2 k1 (g2.trans k2))
   have:=hst (wpOps P all Q (List.range' (k+1) n)) Q (fun c w' X' loc' g1 g2=>hKK _ w' X' loc' g1 g2)
   have harr:all.toList[k]'(by simpa using hlt)=all[k]:=AZ
   rw [harr] at this
   split
   ·rename_i hw
    rw [if_pos hw] at this
    exact .inl this
   ·rename_i hw
    rw [if_neg hw] at this
    exact this
  ·cases h
theorem Ahg (hE:EnvOk P E) {id:Nat} {ops:Array Oper} {s':St} (h:Ff P E ops ops.toList s=some s') (hs:SR w X loc s a) {Q:Exit→Act→World→Prop}
  (hQ:∀ a' w' X' loc',SR w' X' loc' s' a'→Evo w X (s.hc loc) w' X' (s'.hc loc')→Q .normal a' w'):(Code.region id ops false).wp P Q a w:=by
 refine wp_region ?_
 have:=Tw hE (all:=ops) Q ops.size 0 (by omega) (by simpa using h) hs hQ
 rwa [List.range_eq_range']
end
section
variable {P:Program} {E:Env} {T T':List AV} {H H':List Blk} {c c':Nat}
theorem NL {as:Array Operand} (h:∀ x ∈ as.toList,ev T x=ev T' x):as.toList.map (ev T)=as.toList.map (ev T'):=List.map_congr_left h
theorem OE {ps:Array (Nat × Operand)} (h:∀ x ∈ (ps.toList.map (·.2)),ev T x=ev T' x):(ps.toList.map fun p=>(p.1,ev T p.2))=ps.toList.map fun p=>(p.1,ev T' p.2):=by
 refine List.map_congr_left fun p hp=>?_
 rw [h p.2 (lx35.2 ⟨p,hp,rfl⟩)]
theorem IG {x:Option Operand} (h:∀ y ∈ x.toArray.toList,ev T y=ev T' y) (d hi:Nat):AS T x d hi=AS T' x d hi:=by
 cases x with
 | none=>rfl
 | some x=>simp only [AS]; rw [h x (by simp [Option.toArray])]
theorem JK {x:Option Operand} (h:∀ y ∈ x.toArray.toList,ev T y=ev T' y):D8 T x=D8 T' x:=by
 cases x with
 | none=>rfl
 | some x=>simp only [D8]; rw [h x (by simp [Option.toArray])]
theorem Aau (op:Op) (h:∀ x ∈ op.operands.toList,ev T x=ev T' x):Ay P ⟨T,H,c⟩ op=Ay P ⟨T',H,c'⟩ op:=by
 cases op with
 | slice t x lo hi mx=>
  simp only [Op.operands,Array.toList_append,lx77] at h
  have hx:=h x (by simp)
  have h1:=fun d k=>IG (T:=T) (T':=T') (x:=lo) (fun y hy=>h y (.inl (.inl (.inr hy)))) d k
  have h2:=fun d k=>IG (T:=T) (T':=T') (x:=hi) (fun y hy=>h y (.inl (.inr hy))) d k
  have h3:=fun d k=>IG (T:=T) (T':=T') (x:=mx) (fun y hy=>h y (.inr hy)) d k
  have k1:=JK (T:=T) (T':=T') (x:=lo) (fun y hy=>h y (.inl (.inl (.inr hy))))
  have k2:=JK (T:=T) (T':=T') (x:=hi) (fun y hy=>h y (.inl (.inr hy)))
  have k3:=JK (T:=T) (T':=T') (x:=mx) (fun y hy=>h y (.inr hy))
  simp only [Ay,hx,h1,h2,h3,k1,k2,k3]
 | build t ps=>
  have:=OE (T:=T) (T':=T') (ps:=ps) (by simpa [Op.operands] using h)
  simp only [Ay,this]
 | makeFunc f first caps=>
  have:=NL (T:=T) (T':=T') (as:=caps) (fun x hx=>h x (by simp [Op.operands] at hx ⊢; exact .inr hx))
  cases f <;> simp only [Ay,this]
 | call cl=>
  obtain ⟨cal,args,ats⟩:=cl
  have hm:∀ x ∈ args.toList,ev T x=ev T' x:=fun x hx=>h x (by
   simp only [Op.operands,Call.operands]
   simp at hx ⊢
   first | exact .inr hx | exact hx | exact .inl hx)
  have hc:=NL (as:=args) hm
  cases cal with
  | builtin b=>
   cases b <;> simp only [Ay,hc]
   obtain ⟨args⟩:=args
   simp only at hm
   generalize ats.toList=tl
   match tl,args with
   | [],_=>rfl
   | _::_::_,_=>rfl
   | [t],[]=>rfl
   | [t],_::_::_=>rfl
   | [t],[x]=>
    have hx:=hm x (by simp)
    simp only [hx]
  | _=>simp only [Ay]
 | _=>simp [Op.operands] at h <;> simp only [Ay,h]
theorem II {op:Op} (h:∀ x ∈ op.operands.toList,ev T x=ev T' x):EN ⟨T,H,c⟩ op=EN ⟨T',H',c'⟩ op:=by
 unfold EN
 cases op with
 | call cl=>
  obtain ⟨cal,args,ats⟩:=cl
  cases cal with
  | value f=>
   have hm:∀ x ∈ args.toList,ev T x=ev T' x:=fun x hx=>h x (by
    simp only [Op.operands,Call.operands]
    simp at hx ⊢
    first | exact .inr hx | exact hx | exact .inl hx)
   have hf:ev T f=ev T' f:=h f (by simp [Op.operands,Call.operands])
   simp only [hf,NL hm]
  | _=>rfl
 | _=>rfl
theorem Ve {op:Op} (h:∀ x ∈ op.operands.toList,ev T x=ev T' x):AQ E ⟨T,H,c⟩ op=AQ E ⟨T',H',c'⟩ op:=by
 unfold AQ
 rw [II (H':=H') (c':=c') h]
theorem Aav {op:Op} (h:∀ x ∈ op.operands.toList,ev T x=ev T' x):Jv P E ⟨T,H,c⟩ op=Jv P E ⟨T',H,c'⟩ op:=by
 unfold Jv
 rw [II (H':=H) (c':=c') h,Aau (c':=c') op h]
theorem W1 {op:Op} {d:Option Nat} {s':St} (h:∀ x ∈ op.operands.toList,ev T x=ev T' x) (hs:Aw P ⟨T,H,c⟩ op d=some s'):
  ∃ v,s'=⟨C6 T d v,s'.H,s'.cnt⟩∧Aw P ⟨T',H,c⟩ op d=some ⟨C6 T' d v,s'.H,s'.cnt⟩:=by
 cases op with
 | box t x=>
  have hx:=h x (by simp [Op.operands])
  simp only [Aw,←hx] at hs ⊢
  clear hx h
  split at hs
  ·rename_i h1
   cases hs
   refine ⟨_,by rw [Bt],?_⟩
   rw [if_pos h1,Bt,Bt]
  ·cases hs
 | alloc t=>
  simp only [Aw] at hs ⊢
  exact Aya
 | store t x y=>
  exact Av5
 | buildSlice t len ps=>
  have hp:=OE (T:=T) (T':=T') (ps:=ps) (by simpa [Op.operands] using h)
  simp only [Aw,←hp] at hs ⊢
  clear hp h
  exact Aya
 | makeSlice t x y=>
  exact Av5
 | call cl=>
  obtain ⟨cal,args,ats⟩:=cl
  have hm:∀ x ∈ args.toList,ev T x=ev T' x:=fun x hx=>h x (by
   simp only [Op.operands,Call.operands]
   simp at hx ⊢
   first | exact .inr hx | exact hx | exact .inl hx)
  cases cal with
  | builtin b=>
   cases b <;> simp only [Aw] at hs <;> first | (cases hs; done) | skip
   ·simp only [Aw]
    obtain ⟨args⟩:=args
    simp only at hm hs ⊢
    generalize ats.toList=tl at hs ⊢
    match tl,args,hm,hs with
    | [t,t'],[x,y],hm,hs=>
     exact Av6
   ·simp only [Aw]
    obtain ⟨args⟩:=args
    simp only at hm hs ⊢
    generalize ats.toList=tl at hs ⊢
    match tl,args,hm,hs with
    | [t],[x],hm,hs=>
     have hx:=hm x (by simp)
     simp only [←hx] at hs ⊢
     clear hx hm h
     exact Bcr
   ·simp only [Aw]
    obtain ⟨args⟩:=args
    simp only at hm hs ⊢
    generalize ats.toList=tl at hs ⊢
    match tl,args,hm,hs with
    | [t,t'],[x,y],hm,hs=>
     exact Av6
  | _=>simp only [Aw] at hs; cases hs
 | _=>simp only [Aw] at hs; cases hs
theorem QX {o:Oper} {s':St} (h:∀ x ∈ o.op.operands.toList,ev T x=ev T' x) (hs:Fe P E ⟨T,H,c⟩ o=some s'):
  ∃ v,s'=⟨C6 T o.dst v,s'.H,s'.cnt⟩∧Fe P E ⟨T',H,c⟩ o=some ⟨C6 T' o.dst v,s'.H,s'.cnt⟩:=by
 unfold Fe at hs ⊢
 split at hs
 ·rename_i hc
  rw [if_pos hc,←II (H:=H) (c:=c) h]
  split at hs
  ·rename_i g args ht
   simp only at hs ⊢
   split at hs
   ·rename_i r H1 c1 hr
    cases hs
    simp only [Bt]
    exact ⟨r,rfl,rfl⟩
   ·cases hs
  ·cases hs
 ·rename_i hc
  rw [if_neg hc]
  exact W1 h hs
theorem Gz {ops:Array Oper} {o:Oper} {s':St} (h:∀ t ∈ o.looksAt ops,T.getD t .un=T'.getD t .un) (hs:Ag P E ops ⟨T,H,c⟩ o=some s'):
  ∃ v,s'=⟨C6 T o.dst v,s'.H,s'.cnt⟩∧Ag P E ops ⟨T',H,c⟩ o=some ⟨C6 T' o.dst v,s'.H,s'.cnt⟩:=by
 have h1:∀ x ∈ o.op.operands.toList,ev T x=ev T' x:=by
  intro x hx
  cases x with
  | tmp t=>exact h t (by
    unfold Oper.looksAt
    exact List.mem_append_left _ (List.mem_filterMap.2 ⟨.tmp t,hx,rfl⟩))
  | _=>rfl
 have hp:=Aav (P:=P) (E:=E) (H:=H) (c:=c) (c':=c) h1
 have hi:=Ve (E:=E) (H:=H) (c:=c) (H':=H) (c':=c) h1
 unfold Ag at hs ⊢
 rw [←hp,←hi]
 split at hs
 ·split at hs
  ·rename_i hpure
   rw [if_pos hpure]
   exact Bdl
  ·rename_i hpure
   rw [if_neg hpure]
   exact QX h1 hs
 ·rename_i j want hg
  have h2:Ao ops ⟨T,H,c⟩ j=Ao ops ⟨T',H,c⟩ j:=by
   unfold Ao
   cases hd:(ops[j]?).bind (·.dst) with
   | none=>rfl
   | some d=>exact h d (by unfold Oper.looksAt; rw [hg]; simp [hd])
  rw [←h2]
  split at hs
  ·rename_i b hb
   by_cases hpure:AQ E ⟨T,H,c⟩ o.op=true
   ·rw [if_pos hpure] at hs ⊢
    exact Bdl
   ·rw [if_neg hpure] at hs ⊢
    by_cases hbw:b=want
    ·rw [if_pos hbw] at hs ⊢
     exact QX h1 hs
    ·rw [if_neg hbw] at hs ⊢
     cases hs
     exact ⟨.un,by rw [Bt],by rw [Bt,Bt]⟩
  ·cases hs
   exact ⟨.un,by rw [Bt],by rw [Bt,Bt]⟩
  ·cases hs
end
def Vf (acc:List Nat) (o:Oper):Nat:=
 o.after.toList.foldl (fun m e=>if Region.binds .any e=true then m ||| (1 <<< e.on) ||| acc.getD e.on 0 else m) 0
def Kr:List Oper→List Nat→List Nat
 | [],acc=>acc
 | o::r,acc=>Kr r (acc++[Vf acc o])
def Akd (ops:Array Oper):List Nat:=Kr ops.toList []
def before (ops:Array Oper) (i k:Nat):Bool:=((Akd ops).getD k 0).testBit i
def Fu (ops:Array Oper) (L:Nat→Bool):Prop:=∀ j oj,ops[j]?=some oj→L j=true→∀ e ∈ oj.after,Region.binds .any e=true→L e.on=true
def QY (ops:Array Oper) (L:Nat→Bool) (k:Nat):Prop:=∀ o,ops[k]?=some o→∀ e ∈ o.after,Region.binds .any e=true→L e.on=true
theorem W2 (acc:List Nat) (o:Oper) (i:Nat) (h:(Vf acc o).testBit i=true):∃ e ∈ o.after,Region.binds .any e=true∧(e.on=i∨(acc.getD e.on 0).testBit i=true):=by
 unfold Vf at h
 have key:∀ (l:List Edge) (m:Nat),(l.foldl (fun m e=>if Region.binds .any e=true then m ||| (1 <<< e.on) ||| acc.getD e.on 0 else m) m).testBit i=true→
   m.testBit i=true∨∃ e ∈ l,Region.binds .any e=true∧(e.on=i∨(acc.getD e.on 0).testBit i=true):=by
  intro l
  induction l with
  | nil=>intro m h; exact .inl h
  | cons e l ih=>
   intro m h
   rw [List.foldl_cons] at h
   rcases ih _ h with h1 | ⟨e',he',h1⟩
   ·split at h1
    ·rename_i hb
     rw [Nat.testBit_or,Nat.testBit_or] at h1
     simp only [ID] at h1
     rcases h1 with (h1 | h1) | h1
     ·exact .inl h1
     ·refine .inr ⟨e,lx47,hb,.inl ?_⟩
      rw [Nat.testBit_shiftLeft] at h1
      simp only [AH,Bw] at h1
      have:=h1.2
      by_cases hz:i - e.on=0
      ·omega
      ·obtain ⟨q,hq⟩:∃ q,i - e.on=q+1:=⟨i - e.on - 1,by omega⟩
       rw [hq,Nat.testBit_succ] at this
       simp at this
     ·exact .inr ⟨e,lx47,hb,.inr h1⟩
    ·exact .inl h1
   ·exact .inr ⟨e',lx48 _ he',h1⟩
 rcases key _ _ h with h1 | ⟨e,he,h1⟩
 ·simp at h1
 ·exact ⟨e,by simpa using he,h1⟩
def Ake (ops:Array Oper) (acc:List Nat):Prop:=
 ∀ k i,k < acc.length→(acc.getD k 0).testBit i=true→∀ L,Fu ops L→QY ops L k→L i=true
theorem Md (ops:Array Oper):∀ (l:List Oper) (acc:List Nat),ops.toList.drop acc.length=l→Ake ops acc→Ake ops (Kr l acc)
 | [],acc,_,h=>h
 | o::r,acc,hl,h=>by
  have hlt:acc.length < ops.toList.length:=by
   rcases D0 acc.length ops.toList.length with h | h
   ·exact h
   ·rw [lx75 h] at hl; cases hl
  have ho:ops[acc.length]?=some o:=by
   rw [lx76 hlt] at hl
   injection hl with h1 h2
   rw [←h1]; simp at hlt; simp [hlt]
  refine Md ops r (acc++[Vf acc o]) (by
   rw [lx7,List.length_singleton,←lx80,hl,List.drop_succ_cons,lx72]) ?_
  intro k i hk hb L hc hd
  rw [lx81,lx18] at hb
  by_cases hka:k < acc.length
  ·rw [if_pos hka,←lx81] at hb
   exact h k i hka hb L hc hd
  ·have hke:k=acc.length:=by rw [lx7,List.length_singleton] at hk; omega
   rw [if_neg hka,hke,Nat.sub_self] at hb
   simp only [lx45,lx4] at hb
   obtain ⟨e,he,hbd,h1⟩:=W2 acc o i hb
   have hon:=hd o (by rw [hke]; exact ho) e he hbd
   rcases h1 with h1 | h1
   ·rw [←h1]; exact hon
   ·by_cases hel:e.on < acc.length
    ·exact h e.on i hel h1 L hc (fun o' ho' e' he' hb'=>hc e.on o' ho' hon e' he' hb')
    ·rw [lx81,lx30 (by omega)] at h1
     simp at h1
theorem Ib {ops:Array Oper} {i k:Nat} (h:before ops i k=true) {L:Nat→Bool} (hc:Fu ops L) (hd:QY ops L k):L i=true:=by
 have:=Md ops ops.toList [] rfl (fun k i hk=>by simp at hk)
 unfold before Akd at h
 by_cases hk:k < (Kr ops.toList []).length
 ·exact this k i hk h L hc hd
 ·rw [lx81,lx30 (by omega)] at h
  simp at h
theorem Ks {ops:Array Oper} {i k:Nat} (h:before ops i k=true) {L:Nat→Bool} (hc:Fu ops L) (hk:L k=true):L i=true:=
 Ib h hc (fun o ho e he hb=>hc k o ho hk e he hb)
def CP (ops:Array Oper) (k:Nat):Option Nat:=(ops[k]?).bind (·.dst)
variable {κ:Nat→Bool}
def EP (o:Oper):Bool:=Bk o.op || isHeapOp o.op
def G8 (κ:Nat→Bool) (ops:Array Oper) (x y:Oper):Bool:=!(x.apart ops y) || (BY κ x.op && BY κ y.op && !Hy y)
def Bu (κ:Nat→Bool) (ops:Array Oper) (h:Nat):Bool:=match ops[h]? with | some o=>BY κ o.op | none=>false
def gB (κ:Nat→Bool) (ops:Array Oper) (i k:Nat):Bool:=
 if Bu κ ops i=true then (List.range (i+1)).all fun h=>!Bu κ ops h || h == k || before ops h k else before ops i k
def SZ (κ:Nat→Bool) (ops:Array Oper) (k:Nat):Bool:=match ops[k]? with | some o=>Hy o && !gB κ ops k k | none=>false
def soleB (κ:Nat→Bool) (ops:Array Oper) (k:Nat):Bool:=match CP ops k with
 | none=>true
 | some d=>(List.range ops.size).all fun j=>j == k || (match ops[j]? with | some o=>(o.dst != some d) && (!(o.looksAt ops).contains d || gB κ ops k j) | none=>true)
def Fc (κ:Nat→Bool) (ops:Array Oper):Bool:=
 let ms:=Akd ops
 ((List.range ops.size).all fun k=>match ops[k]? with
  | some ok=>(ok.after.all fun e=>!Region.binds .any e || decide (e.on < k)) && (List.range k).all fun i=>match ops[i]? with
   | some oi=>!(G8 κ ops oi ok) || (ms.getD k 0).testBit i
   | none=>true
  | none=>true) && (List.range ops.size).all fun k=>!SZ κ ops k || soleB κ ops k
theorem G9 {ops:Array Oper} (h:Fc κ ops=true) {i k:Nat} {oi ok:Oper} (hi:ops[i]?=some oi) (hk:ops[k]?=some ok) (hik:i < k) (hc:G8 κ ops oi ok=true):before ops i k=true:=by
 have h0:=(AH _ _ ▸ h:_∧_).1
 have h1:=lx28.1 h0 k (Hr.2 (lx49.1 hk).1)
 simp only [hk,AH] at h1
 have h2:=lx28.1 h1.2 i (Hr.2 hik)
 simp only [hi,hc,Bool.not_true,Qx] at h2
 exact h2
theorem QZ {ops:Array Oper} (h:Fc κ ops=true) {k:Nat} {ok:Oper} (hk:ops[k]?=some ok) {e:Edge} (he:e ∈ ok.after) (hb:Region.binds .any e=true):e.on < k:=by
 have h0:=(AH _ _ ▸ h:_∧_).1
 have h1:=lx28.1 h0 k (Hr.2 (lx49.1 hk).1)
 simp only [hk,AH] at h1
 have:=Array.all_eq_true_iff_forall_mem.1 h1.1 e he
 simpa [hb] using this
theorem Ln {ops:Array Oper} (h:Fc κ ops=true) {k:Nat} (hk:SZ κ ops k=true):soleB κ ops k=true:=by
 have h0:=(AH _ _ ▸ h:_∧_).2
 have hlt:k < ops.size:=by
  rcases D0 k ops.size with h | h
  ·exact h
  ·unfold SZ at hk; rw [Array.getElem?_eq_none h] at hk; cases hk
 have h1:=lx28.1 h0 k (Hr.2 hlt)
 rw [hk] at h1
 simpa using h1
theorem Ps {ops:Array Oper} {i k h:Nat} (hi:Bu κ ops i=true) (hg:gB κ ops i k=true) (hh:Bu κ ops h=true) (hle:h≤i) (hne:h≠k):before ops h k=true:=by
 unfold gB at hg
 rw [if_pos hi] at hg
 have:=lx28.1 hg h (Hr.2 (by omega))
 have hq:(h == k)=false:=by simpa using hne
 simpa [hh,hq] using this
theorem Bea {ops:Array Oper} {i k:Nat} (hi:Bu κ ops i=false):gB κ ops i k=before ops i k:=by unfold gB; rw [hi]; simp
theorem NM {ops:Array Oper} {k j d:Nat} {o:Oper} (h:soleB κ ops k=true) (hd:CP ops k=some d) (hj:ops[j]?=some o) (hne:j≠k):o.dst≠some d∧(d ∈ o.looksAt ops→gB κ ops k j=true):=by
 unfold soleB at h
 rw [hd] at h
 have:=lx28.1 h j (Hr.2 (lx49.1 hj).1)
 have hq:(j == k)=false:=by simpa using hne
 simp only [hj,hq,Qx,AH,bne_iff_ne,ne_eq,ID,Jt,List.contains_eq_mem] at this
 refine ⟨this.1,fun hm=>?_⟩
 rcases this.2 with h | h
 ·simp [hm] at h
 ·exact h
section
variable {P:Program} {E:Env}
theorem NN {ops:Array Oper} {s s':St} {o:Oper} (hp:AQ E s o.op=true) (h:Ag P E ops s o=some s'):s'.H=s.H∧s'.cnt=s.cnt:=by
 unfold Ag at h
 split at h
 ·simp only [hp,lx8,lx24] at h
  obtain ⟨v,_,rfl⟩:=h
  exact Ah4
 ·split at h
  ·simp only [hp,lx8,lx24] at h
   obtain ⟨v,_,rfl⟩:=h
   exact Ah4
  ·cases h
   exact Ah4
  ·cases h
theorem Ph {s:St} {o:Oper} (h:AQ E s o.op=false):EP o=true:=by
 unfold AQ at h
 unfold EP
 cases hc:Bk o.op with
 | true=>rfl
 | false=>rw [hc] at h; simpa using h
def hd (κ:Nat→Bool) (ops:Array Oper) (tr:Nat→St) (h:Nat):Prop:=∃ o,ops[h]?=some o∧BY κ o.op=true
theorem Akf {ops:Array Oper} {tr:Nat→St} {h:Nat}:hd κ ops tr h↔Bu κ ops h=true:=by
 unfold hd Bu
 constructor
 ·rintro ⟨o,h1,h2⟩; rw [h1]; exact h2
 ·intro h1
  split at h1
  ·rename_i o ho; exact ⟨o,ho,h1⟩
  ·cases h1
structure Trace (P:Program) (E:Env) (κ:Nat→Bool) (ops:Array Oper) (tr:Nat→St):Prop where
 step:∀ i o,ops[i]?=some o→Ag P E ops (tr i) o=some (tr (i+1))
 keep:∀ i o,ops[i]?=some o→BY κ o.op=false→(tr (i+1)).H=(tr i).H∧(tr (i+1)).cnt=(tr i).cnt
 past:∀ i o h,ops[i]?=some o→BY κ o.op=false→h < i→hd κ ops tr h→gB κ ops h i=false→
  Ag P E ops ⟨(tr i).T,(tr h).H,(tr h).cnt⟩ o=some ⟨(tr (i+1)).T,(tr h).H,(tr h).cnt⟩
 fut:∀ i o h,ops[i]?=some o→BY κ o.op=false→i < h→hd κ ops tr h→before ops i h=false→
  Ag P E ops ⟨(tr i).T,(tr (h+1)).H,(tr (h+1)).cnt⟩ o=some ⟨(tr (i+1)).T,(tr (h+1)).H,(tr (h+1)).cnt⟩
 born:∀ i o,ops[i]?=some o→Hy o=true→gB κ ops i i=false→norefs (Cs (tr (i+1)).H)=true
variable {ops:Array Oper} {tr:Nat→St}
theorem Trace.same (ht:Trace P E κ ops tr):∀ (d i:Nat),i+d≤ops.size→(∀ j,i≤j→j < i+d→Bu κ ops j=false)→(tr (i+d)).H=(tr i).H∧(tr (i+d)).cnt=(tr i).cnt
 | 0,i,_,_=>⟨rfl,rfl⟩
 | d+1,i,hl,h=>by
  obtain ⟨e1,e2⟩:=ht.same d i (by omega) (fun j h1 h2=>h j h1 (by omega))
  have hlt:i+d < ops.size:=An
  have ho:ops[i+d]?=some ops[i+d]:=by simp [hlt]
  have hp:BY κ ops[i+d].op=false:=by
   have:=h (i+d) (by omega) (by omega)
   simpa [Bu,ho] using this
  obtain ⟨g1,g2⟩:=ht.keep _ _ ho hp
  exact ⟨by rw [show i+(d+1)=i+d+1 by omega,g1,e1],by rw [show i+(d+1)=i+d+1 by omega,g2,e2]⟩
def KY (ops:Array Oper) (tr:Nat→St) (k:Nat):AV:=match CP ops k with | some d=>(tr (k+1)).T.getD d .un | none=>.un
def D9 (κ:Nat→Bool) (ops:Array Oper) (tr:Nat→St) (m k:Nat):AV:=if m≤k∧Bu κ ops k=true then .jk else KY ops tr k
def CU (ops:Array Oper) (T0:List AV) (val:Nat→AV):Nat→(Nat→Bool)→List AV
 | 0,_=>T0
 | k+1,L=>if L k=true then C6 (CU ops T0 val k L) (CP ops k) (val k) else CU ops T0 val k L
theorem Akg (T:List AV) (d:Option Nat) (v:AV):(C6 T d v).length=T.length:=by cases d <;> simp [C6]
theorem Tx (T:List AV) {d d':Option Nat} (v v':AV) (h:∀ x,d=some x→d'≠some x):C6 (C6 T d v) d' v'=C6 (C6 T d' v') d v:=by
 cases d with
 | none=>rfl
 | some x=>cases d' with
  | none=>rfl
  | some y=>
   have:x≠y:=fun e=>h x rfl (by rw [e])
   simp only [C6]
   rw [List.set_comm _ _ this]
theorem Aaw (T:List AV) (d:Option Nat) (v v':AV):C6 (C6 T d v) d v'=C6 T d v':=by
 cases d <;> simp [C6]
variable {T0:List AV} {val val':Nat→AV}
theorem DF (L:Nat→Bool):∀ n,(CU ops T0 val n L).length=T0.length
 | 0=>rfl
 | n+1=>by
  rw [CU]; split
  ·rw [Akg,DF L n]
  ·exact DF L n
theorem JL {L L':Nat→Bool}:∀ n,(∀ j,j < n→L j=L' j∧(L j=true→val j=val' j))→CU ops T0 val n L=CU ops T0 val' n L'
 | 0,_=>rfl
 | n+1,h=>by
  have ih:=JL (L:=L) (L':=L') n (fun j hj=>h j (by omega))
  obtain ⟨h1,h2⟩:=h n (by omega)
  rw [CU,CU,←h1,ih]
  split
  ·rename_i hq; rw [h2 hq]
  ·rfl
theorem Q0 {L L':Nat→Bool} (r:Nat):∀ n,(∀ j,j < n→CP ops j=some r→L j=L' j∧(L j=true→val j=val' j))→(CU ops T0 val n L)[r]?=(CU ops T0 val' n L')[r]?
 | 0,_=>rfl
 | n+1,h=>by
  have ih:=Q0 (L:=L) (L':=L') r n (fun j hj=>h j (by omega))
  have hl:(CU ops T0 val n L).length=(CU ops T0 val' n L').length:=by rw [DF,DF]
  have put:∀ (T:List AV) (v:AV),CP ops n≠some r→(C6 T (CP ops n) v)[r]?=T[r]?:=by
   intro T v hne
   cases hd:CP ops n with
   | none=>rfl
   | some d=>
    have:d≠r:=fun e=>hne (by rw [hd,e])
    simp only [C6]
    rw [lx51 this]
  by_cases hd:CP ops n=some r
  ·obtain ⟨h1,h2⟩:=h n (by omega) hd
   rw [CU,CU,←h1]
   split
   ·rename_i hq
    rw [hd,h2 hq]
    simp only [C6]
    rw [lx21,lx21]
    simp [hl]
   ·exact ih
  ·rw [CU,CU]
   split <;> split <;> simp only [put _ _ hd,ih]
theorem Me {L:Nat→Bool} {i:Nat} (hL:∀ j,i≤j→L j=false):∀ d,CU ops T0 val (i+d) L=CU ops T0 val i L
 | 0=>rfl
 | d+1=>by
  rw [show i+(d+1)=(i+d)+1 by omega,CU,if_neg (by rw [hL (i+d) (by omega)]; decide),Me hL d]
theorem Mf {L:Nat→Bool} {i:Nat} (hi:L i=false):∀ n,i < n→(∀ j,i < j→j < n→L j=true→∀ d,CP ops i=some d→CP ops j≠some d)→
  CU ops T0 val n (fun j=>L j || j == i)=C6 (CU ops T0 val n L) (CP ops i) (val i)
 | 0,h,_=>by omega
 | n+1,h,hw=>by
  by_cases DO:i=n
  ·subst DO
   rw [CU,CU,if_pos (by simp),if_neg (by rw [hi]; decide)]
   congr 1
   refine JL _ fun j hj=>⟨?_,fun _=>rfl⟩
   have:(j == i)=false:=F6
   simp [this]
  ·have ih:=Mf (L:=L) hi n (by omega) (fun j h1 h2=>hw j h1 (by omega))
   have hq:(n == i)=false:=F6
   rw [CU,CU,ih]
   simp only [hq,Qy]
   split
   ·rename_i hL
    exact Tx _ _ _ (hw n (by omega) (by omega) hL)
   ·rfl
theorem W3 {L:Nat→Bool} {m:Nat} (hm:L m=true) (hv:∀ j,j≠m→val j=val' j):∀ n,m < n→(∀ j,m < j→j < n→L j=true→∀ d,CP ops m=some d→CP ops j≠some d)→
  CU ops T0 val' n L=C6 (CU ops T0 val n L) (CP ops m) (val' m)
 | 0,h,_=>by omega
 | n+1,h,hw=>by
  by_cases DO:m=n
  ·subst DO
   rw [CU,CU,if_pos hm,if_pos hm,Aaw]
   congr 1
   exact JL _ fun j hj=>⟨rfl,fun _=>(hv j (by omega)).symm⟩
  ·have ih:=W3 (L:=L) hm hv n (by omega) (fun j h1 h2=>hw j h1 (by omega))
   rw [CU,CU,ih,hv n (fun e=>DO e.symm)]
   split
   ·rename_i hL
    exact Tx _ _ _ (hw n (by omega) (by omega) hL)
   ·rfl
theorem Trace.put (ht:Trace P E κ ops tr) {i:Nat} {o:Oper} (ho:ops[i]?=some o):(tr (i+1)).T=C6 (tr i).T (CP ops i) (KY ops tr i):=by
 obtain ⟨v,h1,_⟩:=Gz (T:=(tr i).T) (T':=(tr i).T) (H:=(tr i).H) (c:=(tr i).cnt) (fun _ _=>rfl) (ht.step i _ ho)
 have hdst:CP ops i=o.dst:=by simp [CP,ho]
 unfold KY
 rw [hdst,h1]
 cases hd:o.dst with
 | none=>rfl
 | some d=>
  simp only [C6]
  by_cases hlt:d < (tr i).T.length
  ·rw [lx81,List.getElem?_set_self hlt,lx4]
  ·have hle:(tr i).T.length≤d:=Nat.le_of_not_lt hlt
   rw [lx71 hle,lx71 hle]
theorem Trace.slots (ht:Trace P E κ ops tr):∀ i,i≤ops.size→∀ L:Nat→Bool,(∀ j,j < i→L j=true)→CU ops (tr 0).T (KY ops tr) i L=(tr i).T
 | 0,_,_,_=>rfl
 | i+1,hi,L,hL=>by
  have ih:=ht.slots i (by omega) L (fun j hj=>hL j (by omega))
  rw [CU,if_pos (hL i (by omega)),ih,ht.put (show ops[i]?=some ops[i] by simp)]
theorem Trace.len (ht:Trace P E κ ops tr) {i:Nat} (hi:i≤ops.size):(tr i).T.length=(tr 0).T.length:=by
 rw [←ht.slots i hi (fun _=>true) (fun _ _=>rfl),DF]
def Vg (κ:Nat→Bool) (ops:Array Oper) (L:Nat→Bool) (m:Nat):Prop:=m=ops.size∨(Bu κ ops m=true∧L m=false)
theorem Ar1 (hB:Fc κ ops=true) {L:Nat→Bool} (hc:Fu ops L) {m:Nat} (hN:Vg κ ops L m) {k:Nat} (hk:Bu κ ops k=true) (hmk:m≤k) (hL:L k=true):SZ κ ops k=true:=by
 have hks:k < ops.size:=by
  rcases D0 k ops.size with h | h
  ·exact h
  ·unfold Bu at hk; rw [Array.getElem?_eq_none h] at hk; cases hk
 rcases hN with hN | ⟨h1,h2⟩
 ·omega
 have hne:m≠k:=fun e=>by rw [e,hL] at h2; cases h2
 have hms:m < ops.size:=An
 have hom:ops[m]?=some ops[m]:=AZ
 have hok:ops[k]?=some ops[k]:=AZ
 have hpm:BY κ ops[m].op=true:=by simpa [Bu,hom] using h1
 have hpk:BY κ ops[k].op=true:=by simpa [Bu,hok] using hk
 have nb:before ops m k=false:=by
  cases hq:before ops m k with
  | false=>rfl
  | true=>rw [Ks hq hc hL] at h2; cases h2
 have hl:Hy ops[k]=true:=by
  cases hq:Hy ops[k] with
  | true=>rfl
  | false=>
   have:=G9 hB hom hok (by omega) (by unfold G8; rw [hpm,hpk,hq]; simp)
   rw [nb] at this; cases this
 unfold SZ
 rw [hok]
 simp only [hl,KP,Jt]
 cases hq:gB κ ops k k with
 | false=>rfl
 | true=>
  have:=Ps hk hq h1 hmk hne
  rw [nb] at this; cases this
theorem Trace.looks (hB:Fc κ ops=true) (ht:Trace P E κ ops tr) {L:Nat→Bool} (hc:Fu ops L) {i:Nat} {o:Oper} (ho:ops[i]?=some o) (hi:L i=false) (hd':QY ops L i)
  {m:Nat} (hN:Vg κ ops L m):∀ t ∈ o.looksAt ops,(tr i).T.getD t .un=(CU ops (tr 0).T (D9 κ ops tr m) ops.size L).getD t .un:=by
 have DO:i < ops.size:=(lx49.1 ho).1
 intro t htl
 have e1:(CU ops (tr 0).T (KY ops tr) ops.size (fun j=>decide (j < i)))[t]?=(tr i).T[t]?:=by
  have:=Me (ops:=ops) (T0:=(tr 0).T) (val:=KY ops tr) (L:=fun j=>decide (j < i)) (i:=i) (fun j hj=>by simp; omega) (ops.size - i)
  rw [show i+(ops.size - i)=ops.size by omega] at this
  rw [this,ht.slots i (by omega) _ (fun j hj=>by simpa using hj)]
 have e2:=Q0 (ops:=ops) (T0:=(tr 0).T) (val:=KY ops tr) (val':=D9 κ ops tr m) (L:=fun j=>decide (j < i)) (L':=L) t ops.size (by
  intro j hj hdj
  have hoj:ops[j]?=some ops[j]:=by simp [hj]
  have hdj':ops[j].dst=some t:=by simpa [CP,hoj] using hdj
  rcases Nat.lt_trichotomy j i with hji | hji | hji
  ·have hb:before ops j i=true:=G9 hB hoj ho hji (by
    unfold G8 Oper.apart
    simp [hdj',htl])
   have hLj:=Ib hb hc hd'
   refine ⟨by rw [hLj]; simpa using hji,fun _=>?_⟩
   unfold D9
   split
   ·exfalso
    rename_i hh
    have hmay:=Ar1 hB hc hN hh.2 hh.1 hLj
    have hsole:=Ln hB hmay
    have hg:=(NM hsole hdj ho (by omega)).2 htl
    rcases hN with hN | ⟨h1,h2⟩
    ·omega
    ·have hmj:m≠j:=fun e=>by rw [e,hLj] at h2; cases h2
     have:=Ib (Ps hh.2 hg h1 hh.1 (by omega)) hc hd'
     rw [h2] at this; cases this
   ·rfl
  ·subst hji; rw [hi]; simp
  ·have:before ops i j=true:=G9 hB ho hoj hji (by
    unfold G8 Oper.apart
    cases o.dst <;> simp [hdj',htl])
   have hLj:L j=false:=by
    cases hq:L j with
    | false=>rfl
    | true=>rw [Ks this hc hq] at hi; cases hi
   rw [hLj]
   have hq:decide (j < i)=false:=F6
   simp [hq])
 rw [lx81,lx81,←e1,e2]
theorem Akh (hB:Fc κ ops=true) {L:Nat→Bool} (hc:Fu ops L) {i:Nat} (hi:L i=false):∀ j,i < j→j < ops.size→L j=true→∀ d,CP ops i=some d→CP ops j≠some d:=by
 intro j hij hj hL d hd hdj
 have hoj:ops[j]?=some ops[j]:=AZ
 have hoi:ops[i]?=some (ops[i]'(by omega)):=AZ
 have hdj':ops[j].dst=some d:=by simpa [CP,hoj] using hdj
 have hdi':(ops[i]'(by omega)).dst=some d:=by simpa [CP,hoi] using hd
 have:before ops i j=true:=G9 hB hoi hoj hij (by
  unfold G8 Oper.apart
  simp [hdi',hdj'])
 rw [Ks this hc hL] at hi; cases hi
theorem Trace.pureAt (ht:Trace P E κ ops tr) {L:Nat→Bool} (hc:Fu ops L) {i:Nat} {o:Oper} (ho:ops[i]?=some o) (hi:L i=false) (hd':QY ops L i) (hp:BY κ o.op=false)
  {m:Nat} (hm:m≤ops.size) (hlo:∀ h,h < m→Bu κ ops h=true→L h=true) (hN:Vg κ ops L m):
  Ag P E ops ⟨(tr i).T,(tr m).H,(tr m).cnt⟩ o=some ⟨(tr (i+1)).T,(tr m).H,(tr m).cnt⟩:=by
 have DO:i < ops.size:=(lx49.1 ho).1
 have lex:Ag P E ops ⟨(tr i).T,(tr i).H,(tr i).cnt⟩ o=some ⟨(tr (i+1)).T,(tr i).H,(tr i).cnt⟩:=by
  have h0:=ht.step i o ho
  obtain ⟨g1,g2⟩:=ht.keep i o ho hp
  rw [h0,←g1,←g2]
 rcases D0 i m with him | him
 ·
  have up:∀ d,i+1+d≤m→Ag P E ops ⟨(tr i).T,(tr (i+1+d)).H,(tr (i+1+d)).cnt⟩ o=some ⟨(tr (i+1)).T,(tr (i+1+d)).H,(tr (i+1+d)).cnt⟩:=by
   intro d
   induction d with
   | zero=>
    intro _
    obtain ⟨g1,g2⟩:=ht.keep i o ho hp
    rw [Gl,g1,g2]; exact lex
   | succ d ih=>
    intro hle
    cases hh:Bu κ ops (i+1+d) with
    | true=>
     have hLh:L (i+1+d)=true:=hlo _ (by omega) hh
     have hb:before ops i (i+1+d)=false:=by
      cases hq:before ops i (i+1+d) with
      | false=>rfl
      | true=>rw [Ks hq hc hLh] at hi; cases hi
     have:=ht.fut i o (i+1+d) ho hp (by omega) (Akf.2 hh) hb
     rw [show i+1+(d+1)=i+1+d+1 by omega]
     exact this
    | false=>
     obtain ⟨g1,g2⟩:=ht.same 1 (i+1+d) (by omega) (fun j h1 h2=>by rwa [show j=i+1+d by omega])
     rw [show i+1+(d+1)=i+1+d+1 by omega,g1,g2]
     exact ih (by omega)
  have:=up (m - (i+1)) (by omega)
  rwa [show i+1+(m - (i+1))=m by omega] at this
 ·
  have down:∀ d,d≤i - m→Ag P E ops ⟨(tr i).T,(tr (i - d)).H,(tr (i - d)).cnt⟩ o=some ⟨(tr (i+1)).T,(tr (i - d)).H,(tr (i - d)).cnt⟩:=by
   intro d
   induction d with
   | zero=>intro _; exact lex
   | succ d ih=>
    intro hle
    cases hh:Bu κ ops (i - (d+1)) with
    | true=>
     have hb:gB κ ops (i - (d+1)) i=false:=by
      cases hq:gB κ ops (i - (d+1)) i with
      | false=>rfl
      | true=>
       rcases hN with hN | ⟨h1,h2⟩
       ·omega
       ·have:=Ib (Ps hh hq h1 (by omega) (by omega)) hc hd'
        rw [h2] at this; cases this
     exact ht.past i o (i - (d+1)) ho hp (by omega) (Akf.2 hh) hb
    | false=>
     obtain ⟨g1,g2⟩:=ht.same 1 (i - (d+1)) (by omega) (fun j h1 h2=>by rwa [show j=i - (d+1) by omega])
     rw [show i - (d+1)+1=i - d by omega] at g1 g2
     rw [←g1,←g2]
     exact ih (by omega)
  have:=down (i - m) (Av _)
  rwa [show i - (i - m)=m by omega] at this
end
def OF (listed:Array Bool) (n:Nat):Nat:=((List.range n).filter fun i=>!listed.getD i true).length
theorem Ty {α:Type} {p q:α→Bool}:∀ (l:List α),(∀ x ∈ l,q x=true→p x=true)→(∃ x ∈ l,p x=true∧q x=false)→(l.filter q).length < (l.filter p).length
 | [],_,h=>by obtain ⟨x,hx,_⟩:=h; cases hx
 | y::l,h1,h2=>by
  have hle:∀ l:List α,(∀ x ∈ l,q x=true→p x=true)→(l.filter q).length≤(l.filter p).length:=by
   intro l
   induction l with
   | nil=>intro _; exact Av _
   | cons z l ih=>
    intro h
    have:=ih (fun x hx=>h x (lx48 _ hx))
    have hz:=h z lx47
    simp only [List.filter_cons]
    cases hq:q z <;> cases hp:p z <;> simp <;> first | omega | (rw [hz hq] at hp; cases hp)
  have hl:=hle l (fun x hx=>h1 x (lx48 _ hx))
  have hy:=h1 y lx47
  by_cases hex:∃ x ∈ l,p x=true∧q x=false
  ·have ih:=Ty l (fun x hx=>h1 x (lx48 _ hx)) hex
   simp only [List.filter_cons]
   cases hq:q y <;> cases hp:p y <;> simp <;> first | omega | (rw [hy hq] at hp; cases hp)
  ·obtain ⟨x,hx,hpx,hqx⟩:=h2
   rcases lx59.1 hx with rfl | hx
   ·simp only [List.filter_cons,hpx,hqx]
    simp; omega
   ·exact absurd ⟨x,hx,hpx,hqx⟩ hex
section
variable {P:Program} {E:Env} {w:World} {X:Nat→Prop} {loc:Nat→Option (Nat × Nat)} {a:Act} {ops:Array Oper} {tr:Nat→St}
theorem Em {listed:Array Bool} {i:Nat} (h:i ∈ Region.ready .any ops listed):∃ o,ops[i]?=some o∧listed.getD i true=false∧∀ e ∈ o.after,Region.binds .any e=true→listed.getD e.on false=true:=by
 unfold Region.ready at h
 simp only [List.mem_filter,Hr,AH,Jt] at h
 obtain ⟨h1,h2,h3⟩:=h
 have ho:ops[i]?=some ops[i]:=by simp [h1]
 rw [ho] at h3
 simp only [lx34,lx4] at h3
 refine ⟨_,ho,h2,fun e he hb=>?_⟩
 have:=Array.all_eq_true_iff_forall_mem.1 h3 e he
 simpa [hb] using this
theorem Q1 {listed:Array Bool} {i:Nat} {o:Oper} (ho:ops[i]?=some o) (h1:listed.getD i true=false) (h2:∀ e ∈ o.after,Region.binds .any e=true→listed.getD e.on false=true):i ∈ Region.ready .any ops listed:=by
 unfold Region.ready
 simp only [List.mem_filter,Hr,AH,Jt]
 refine ⟨(lx49.1 ho).1,h1,?_⟩
 rw [ho]
 simp only [lx34,lx4]
 refine Array.all_eq_true_iff_forall_mem.2 fun e he=>?_
 cases hb:Region.binds .any e with
 | false=>rfl
 | true=>simp [h2 e he hb]
theorem GB {listed:Array Bool} {i:Nat} (h:i < listed.size):listed.getD i true=listed.getD i false:=by simp [h]
theorem Pu {T T':List AV} {d:Option Nat} {v v':AV} (h:C6 T d v=C6 T d v') (hl:T'.length=T.length):C6 T' d v=C6 T' d v':=by
 cases d with
 | none=>rfl
 | some d=>
  simp only [C6] at h ⊢
  by_cases hlt:d < T.length
  ·have h1:=congrArg (fun l=>l[d]?) h
   simp only [List.getElem?_set_self hlt,lx16] at h1
   rw [h1]
  ·rw [lx71 (by omega),lx71 (by omega)]
def Pend (κ:Nat→Bool) (ops:Array Oper) (tr:Nat→St) (w0 w1:World) (X1:Nat→Prop) (hc1:HC) (a1:Act) (k b:Nat):Prop:=
 w0.heap.size≤b∧SZ κ ops k=true∧∃ o rv ty esz els tmp,ops[k]?=some o∧
  tr (k+1)=⟨C6 (tr k).T o.dst (W0 rv (tr k).H.length (tr k).cnt),(tr k).H++[⟨true,(tr k).cnt,ty,esz,els,tmp⟩],(tr k).cnt+1⟩∧
  Born w1 X1 hc1 b ty esz els∧∀ d,o.dst=some d→d < (tr 0).T.length→∃ v,a1.tmps.toList[d]?=some v∧RvV w1 rv ty esz els.length b v
theorem Pend.mono {w0 w1 w2:World} {X1 X2:Nat→Prop} {hc1 hc2:HC} {a1:Act} {k b i:Nat} {oi:Oper} {c:Value} (h:Pend κ ops tr w0 w1 X1 hc1 a1 k b) (hB:Fc κ ops=true) (hoi:ops[i]?=some oi) (hne:i≠k)
  (ev:Evo w1 X1 hc1 w2 X2 hc2) (hr:HR w1 X1 hc1):Pend κ ops tr w0 w2 X2 hc2 (a1.put oi.dst c) k b:=by
 obtain ⟨h1,h2,o,rv,ty,esz,els,tmp,h3,h4,h5,h6⟩:=h
 refine ⟨h1,h2,o,rv,ty,esz,els,tmp,h3,h4,h5.mono ev hr,fun d hd hlt=>?_⟩
 obtain ⟨v,g1,g2⟩:=h6 d hd hlt
 have hs:=(NM (Ln hB h2) (show CP ops k=some d by simp [CP,h3,hd]) hoi hne).1
 refine ⟨v,?_,g2.mono ev⟩
 cases hq:oi.dst with
 | none=>exact g1
 | some x=>
  have hx:x≠d:=fun e=>hs (by rw [hq,e])
  simp only [Act.put,Array.toList_setIfInBounds]
  rw [lx51 hx]
  exact g1
structure DI (w:World) (X:Nat→Prop) (loc:Nat→Option (Nat × Nat)) (κ:Nat→Bool) (ops:Array Oper) (tr:Nat→St) (L:Nat→Bool) (m:Nat) (a1:Act) (w1:World) (X1:Nat→Prop) (loc1:Nat→Option (Nat × Nat)):Prop where
 cl:Fu ops L
 ml:m≤ops.size
 lo:∀ h,h < m→Bu κ ops h=true→L h=true
 sr:SR w1 X1 loc1 ⟨CU ops (tr 0).T (D9 κ ops tr m) ops.size L,(tr m).H,(tr m).cnt⟩ a1
 ev:Evo w X ((tr 0).hc loc) w1 X1 ⟨loc1,(tr m).H,(tr m).cnt⟩
 pe:∃ bf:Nat→Nat,(∀ k,Bu κ ops k=true→m≤k→L k=true→Pend κ ops tr w w1 X1 ⟨loc1,(tr m).H,(tr m).cnt⟩ a1 k (bf k))∧
  ∀ k k',Bu κ ops k=true→m≤k→L k=true→Bu κ ops k'=true→m≤k'→L k'=true→bf k=bf k'→k=k'
theorem DI.norm (hB:Fc κ ops=true) (ht:Trace P E κ ops tr) {L:Nat→Bool} {a1:Act} {w1:World} {X1:Nat→Prop}:∀ (n:Nat) {m:Nat} {loc1:Nat→Option (Nat × Nat)},ops.size - m≤n→DI w X loc κ ops tr L m a1 w1 X1 loc1→
  ∃ m' loc',DI w X loc κ ops tr L m' a1 w1 X1 loc'∧Vg κ ops L m'
 | 0,m,loc1,hn,h=>⟨m,loc1,h,.inl (by have:=h.ml; omega)⟩
 | n+1,m,loc1,hn,h=>by
  by_cases hm:m=ops.size
  ·exact ⟨m,loc1,h,.inl hm⟩
  have hml:=h.ml
  have hlt:m < ops.size:=An
  cases hh:Bu κ ops m with
  | false=>
   obtain ⟨g1,g2⟩:=ht.same 1 m (by omega) (fun j h1 h2=>by rwa [show j=m by omega])
   have Fe:D9 κ ops tr (m+1)=D9 κ ops tr m:=by
    funext j
    unfold D9
    by_cases hj:j=m
    ·subst hj; simp [hh]
    ·exact Ayr
   refine DI.norm hB ht n (m:=m+1) (loc1:=loc1) (by omega) ⟨h.cl,by omega,?_,?_,?_,?_⟩
   ·intro k hk hp
    by_cases hkm:k=m
    ·rw [hkm,hh] at hp; cases hp
    ·exact h.lo k (by omega) hp
   ·rw [Fe,g1,g2]; exact h.sr
   ·rw [g1,g2]; exact h.ev
   ·rw [g1,g2]
    obtain ⟨bf,p1,p2⟩:=h.pe
    exact ⟨bf,fun k a b c=>p1 k a (by omega) c,fun k k' a b c a' b' c'=>p2 k k' a (by omega) c a' (by omega) c'⟩
  | true=>
   cases hL:L m with
   | false=>exact ⟨m,loc1,h,.inr ⟨hh,hL⟩⟩
   | true=>
    obtain ⟨bf,p1,p2⟩:=h.pe
    obtain ⟨q1,q2,o,rv,ty,esz,els,tmp,ho,htr,hb,hv⟩:=p1 m hh (Av _) hL
    have hdo:CP ops m=o.dst:=by simp [CP,ho]
    have hreg:=Az0 (dst:=o.dst) (rv:=rv) (tmp:=tmp) h.sr hb (fun d hd hl=>hv d hd (by rwa [DF] at hl))
    have hT:CU ops (tr 0).T (D9 κ ops tr (m+1)) ops.size L=C6 (CU ops (tr 0).T (D9 κ ops tr m) ops.size L) o.dst (W0 rv (tr m).H.length (tr m).cnt):=by
     rw [W3 (val:=D9 κ ops tr m) (val':=D9 κ ops tr (m+1)) hL (fun j hj=>?_) ops.size hlt (fun j h1 h2 h3 d hd=>?_)]
     ·have hvm:D9 κ ops tr (m+1) m=KY ops tr m:=by unfold D9; rw [if_neg (by omega)]
      rw [hvm,hdo]
      refine Pu (T:=(tr m).T) ?_ (by rw [DF]; exact (ht.len h.ml).symm)
      rw [←hdo,←ht.put ho,htr,hdo]
     ·unfold D9
      exact Ayr
     ·have hoj:ops[j]?=some ops[j]:=by simp
      have:=(NM (Ln hB q2) hd hoj (by omega)).1
      simpa [CP,hoj] using this
    refine DI.norm hB ht n (m:=m+1) (loc1:=fun k=>if k=(tr m).H.length then some (bf m,0) else loc1 k) (by omega) ⟨h.cl,by omega,?_,?_,?_,bf,?_,?_⟩
    ·intro k hk hp
     by_cases hkm:k=m
     ·rw [hkm]; exact hL
     ·exact h.lo k (by omega) hp
    ·rw [hT,htr]; exact hreg
    ·rw [htr]; exact Aqy _ rfl h.ev q1
    ·intro k k1 k2 k3
     obtain ⟨r1,r2,o',rv',ty',esz',els',tmp',r3,r4,r5,r6⟩:=p1 k k1 (by omega) k3
     refine ⟨r1,r2,o',rv',ty',esz',els',tmp',r3,r4,?_,r6⟩
     rw [htr]
     refine Ahf _ r5 fun e=>?_
     have:=p2 k m k1 (by omega) k3 hh (Av _) hL e
     omega
    ·exact fun k k' a b c a' b' c'=>p2 k k' a (by omega) c a' (by omega) c'
theorem W4 (hE:EnvOk P E) (hB:Fc κ ops=true) (ht:Trace P E κ ops tr) {Q:Exit→Act→World→Prop}
  (hQ:∀ a' w' X' loc',SR w' X' loc' (tr ops.size) a'→Evo w X ((tr 0).hc loc) w' X' ((tr ops.size).hc loc')→Q .normal a' w'):
  ∀ (fuel:Nat) (listed:Array Bool) (a1:Act) (w1:World) (X1:Nat→Prop) (loc1:Nat→Option (Nat × Nat)) (m:Nat),listed.size=ops.size→
   DI w X loc κ ops tr (fun j=>listed.getD j false) m a1 w1 X1 loc1→OF listed ops.size≤fuel→
   wpAny P .any ops Q fuel listed a1 w1:=by
 intro fuel
 have done:∀ (listed:Array Bool) (a1:Act) (w1:World) (X1:Nat→Prop) (loc1:Nat→Option (Nat × Nat)) (m:Nat),listed.size=ops.size→DI w X loc κ ops tr (fun j=>listed.getD j false) m a1 w1 X1 loc1→
   Region.ready .any ops listed=[]→Q .normal a1 w1:=by
  intro listed a1 w1 X1 loc1 m hsz hd hnil
  have hall:∀ k,k < ops.size→listed.getD k false=true:=by
   intro k
   induction k using Nat.strongRecOn with
   | _ k ih=>
    intro hk
    cases hq:listed.getD k false with
    | true=>rfl
    | false=>
     have ho:ops[k]?=some ops[k]:=by simp [hk]
     have:=Q1 (listed:=listed) ho (by rw [GB (by omega)]; exact hq) (fun e he hb=>ih e.on (QZ hB ho he hb) (by have:=QZ hB ho he hb; omega))
     rw [hnil] at this; cases this
  obtain ⟨m',loc',hd',hN⟩:=hd.norm hB ht (ops.size - m) (Av _)
  have hm':m'=ops.size:=by
   rcases hN with hN | ⟨h1,h2⟩
   ·exact hN
   ·have hlt:m' < ops.size:=by
     rcases D0 m' ops.size with h | h
     ·exact h
     ·unfold Bu at h1; rw [Array.getElem?_eq_none h] at h1; cases h1
    have h3:=hall m' hlt
    simp only at h2
    rw [h3] at h2; cases h2
  subst hm'
  have hT:CU ops (tr 0).T (D9 κ ops tr ops.size) ops.size (fun j=>listed.getD j false)=(tr ops.size).T:=by
   rw [←ht.slots ops.size (Av _) (fun j=>listed.getD j false) hall]
   refine JL _ fun j hj=>⟨rfl,fun _=>?_⟩
   unfold D9; rw [if_neg (by omega)]
  have hs:=hd'.sr
  rw [hT] at hs
  exact hQ a1 w1 X1 loc' hs hd'.ev
 induction fuel with
 | zero=>
  intro listed a1 w1 X1 loc1 m hsz hd hop
  have hnil:Region.ready .any ops listed=[]:=by
   cases hr:Region.ready .any ops listed with
   | nil=>rfl
   | cons i r=>
    exfalso
    obtain ⟨o,ho,h1,h2⟩:=Em (ops:=ops) (listed:=listed) (i:=i) (by rw [hr]; exact lx47)
    have:i ∈ (List.range ops.size).filter fun i=>!listed.getD i true:=by
     simp only [List.mem_filter,Hr]
     exact ⟨(lx49.1 ho).1,by rw [h1]; rfl⟩
    have:=List.length_pos_of_mem this
    unfold OF at hop
    omega
  exact ⟨hnil,done listed a1 w1 X1 loc1 m hsz hd hnil⟩
 | succ fuel ih=>
  intro listed a1 w1 X1 loc0 m0 hsz hd0 hop
  refine ⟨done listed a1 w1 X1 loc0 m0 hsz hd0,fun i hi=>?_⟩
  obtain ⟨m,loc1,hd,hN⟩:=hd0.norm hB ht (ops.size - m0) (Av _)
  clear hd0
  obtain ⟨o,ho,h1,h2⟩:=Em hi
  have DO:i < ops.size:=(lx49.1 ho).1
  have hdo:CP ops i=o.dst:=by simp [CP,ho]
  have hif:listed.getD i false=false:=by rw [←GB (by omega)]; exact h1
  have hdeps:QY ops (fun j=>listed.getD j false) i:=fun o' ho' e he hb=>by rw [ho] at ho'; cases ho'; exact h2 e he hb
  have hset:∀ j,(listed.setIfInBounds i true).getD j false=(listed.getD j false || j == i):=by
   intro j
   by_cases hji:j=i
   ·subst hji
    have:j < listed.size:=An
    simp [this]
   ·have:(j == i)=false:=by simpa using hji
    rw [this,Qy]
    have hne:i≠j:=fun e=>hji e.symm
    simp [Array.getD_eq_getD_getElem?,Array.getElem?_setIfInBounds_ne hne]
  have hfun:(fun j=>(listed.setIfInBounds i true).getD j false)=fun j=>listed.getD j false || j == i:=funext hset
  have hcl':Fu ops (fun j=>listed.getD j false || j == i):=by
   intro j oj hoj hLj e he hb
   simp only [ID,lx86] at hLj ⊢
   rcases hLj with hLj | hLj
   ·exact .inl (hd.cl j oj hoj hLj e he hb)
   ·subst hLj
    rw [ho] at hoj; cases hoj
    exact .inl (h2 e he hb)
  have hop':OF (listed.setIfInBounds i true) ops.size≤fuel:=by
   have:OF (listed.setIfInBounds i true) ops.size < OF listed ops.size:=by
    unfold OF
    refine Ty _ (fun j hj hq=>?_) ⟨i,Hr.2 DO,by rw [h1]; rfl,?_⟩
    ·have hj':j < ops.size:=Hr.1 hj
     rw [GB (by simp; omega),hset,Bool.not_or,AH] at hq
     rw [GB (by omega)]
     exact hq.1
    ·rw [GB (by simp; omega),hset]; simp
   omega
  have hK:∀ a' w' X' loc' m',DI w X loc κ ops tr (fun j=>listed.getD j false || j == i) m' a' w' X' loc'→wpAny P .any ops Q fuel (listed.setIfInBounds i true) a' w':=by
   intro a' w' X' loc' m' hd'
   exact ih (listed.setIfInBounds i true) a' w' X' loc' m' (by simp [hsz]) (by rw [hfun]; exact hd') hop'
  have hlook:=ht.looks hB hd.cl ho hif hdeps hN
  have hfree:=Akh (ops:=ops) hB hd.cl hif
  obtain ⟨bf,p1,p2⟩:=hd.pe
  have go:∀ (s':St) (m':Nat),Ag P E ops ⟨CU ops (tr 0).T (D9 κ ops tr m) ops.size (fun j=>listed.getD j false),(tr m).H,(tr m).cnt⟩ o=some s'→
    s'=⟨CU ops (tr 0).T (D9 κ ops tr m') ops.size (fun j=>listed.getD j false || j == i),(tr m').H,(tr m').cnt⟩→m'≤ops.size→(∀ h,h < m'→Bu κ ops h=true→(listed.getD h false || h == i)=true)→
    (Bu κ ops i=true→i < m')→m≤m'→wpOp P ops Q i (wpAny P .any ops Q fuel (listed.setIfInBounds i true)) a1 w1:=by
   intro s' m' hop hs' hm' hlo' him hmm
   have hst:=Tv hE hd.sr hop
   have:=hst (wpAny P .any ops Q fuel (listed.setIfInBounds i true)) Q (fun c w' X' loc' g1 g2=>by
    subst hs'
    refine hK _ w' X' loc' m' ⟨hcl',hm',hlo',g1,hd.ev.trans g2,bf,?_,?_⟩
    ·intro k hk hmk hLk
     have hki:i≠k:=fun e=>by subst e; have:=him hk; omega
     have hq:(k == i)=false:=by simp; exact fun e=>hki e.symm
     simp only [hq,Qy] at hLk
     exact (p1 k hk (by omega) hLk).mono hB ho hki g2 hd.sr.hr
    ·intro k k' c1 c2 c3 d1 d2 d3
     have hki:i≠k:=fun e=>by subst e; have:=him c1; omega
     have hki':i≠k':=fun e=>by subst e; have:=him d1; omega
     have hq:(k == i)=false:=by simp; exact fun e=>hki e.symm
     have hq':(k' == i)=false:=by simp; exact fun e=>hki' e.symm
     simp only [hq,hq',Qy] at c3 d3
     exact p2 k k' c1 (by omega) c3 d1 (by omega) d3)
   unfold wpOp
   rw [ho]
   simp only
   split
   ·rename_i hw
    rw [if_pos hw] at this
    exact .inl this
   ·rename_i hw
    rw [if_neg hw] at this
    exact this
  cases hp:BY κ o.op with
  | false=>
   have hh:Bu κ ops i=false:=by unfold Bu; rw [ho]; exact hp
   have good:=ht.pureAt hd.cl ho hif hdeps hp hd.ml hd.lo hN
   obtain ⟨v,g1,g2⟩:=Gz hlook good
   injection g1 with g1 _
   refine go _ m g2 ?_ hd.ml (fun h hh hp=>by rw [hd.lo h hh hp]; rfl) (fun h=>by rw [hh] at h; cases h) (Av _)
   rw [Mf hif ops.size DO hfree]
   have hvm:D9 κ ops tr m i=KY ops tr i:=by unfold D9; rw [if_neg (by rw [hh]; simp)]
   rw [hvm,hdo]
   congr 1
   refine Pu (T:=(tr i).T) ?_ (by rw [DF]; exact (ht.len (by omega)).symm)
   rw [←g1,←hdo,←ht.put ho]
  | true=>
   have hh:Bu κ ops i=true:=by unfold Bu; rw [ho]; exact hp
   have hmi:m≤i:=by
    rcases D0 i m with h | h
    ·have:=hd.lo i h hh
     rw [hif] at this; cases this
    ·exact h
   cases hmay:SZ κ ops i with
   | false=>
    have hbelow:∀ h,h < i→Bu κ ops h=true→listed.getD h false=true:=by
     intro h hlt hhh
     have hoh:ops[h]?=some (ops[h]'(by omega)):=AZ
     have hph:BY κ (ops[h]'(by omega)).op=true:=by simpa [Bu,hoh] using hhh
     have hb:before ops h i=true:=by
      cases hl:Hy o with
      | false=>exact G9 hB hoh ho hlt (by unfold G8; rw [hph,hp,hl]; simp)
      | true=>
       have:gB κ ops i i=true:=by
        unfold SZ at hmay
        rw [ho] at hmay
        simpa [hl] using hmay
       exact Ps hh this hhh (by omega) (by omega)
     exact Ib hb hd.cl hdeps
    have hmi':m=i:=by
     rcases hN with hN | ⟨h1,h2⟩
     ·omega
     ·rcases D0 m i with h | h
      ·have:=hbelow m h h1
       simp only at h2
       rw [this] at h2; cases h2
      ·omega
    subst hmi'
    obtain ⟨v,g1,g2⟩:=Gz (T:=(tr m).T) (H:=(tr m).H) (c:=(tr m).cnt) hlook (ht.step m o ho)
    refine go _ (m+1) g2 ?_ (by omega) (fun h hlt hp=>?_) (fun _=>by omega) (by omega)
    ·rw [Mf hif ops.size DO hfree]
     have hvm:D9 κ ops tr (m+1) m=KY ops tr m:=by unfold D9; rw [if_neg (by omega)]
     rw [hvm,hdo,JL (val:=D9 κ ops tr (m+1)) (val':=D9 κ ops tr m) (L':=fun j=>listed.getD j false) ops.size (fun j hj=>⟨rfl,fun hLj=>?_⟩)]
     ·congr 1
      refine Pu (T:=(tr m).T) ?_ (by rw [DF]; exact (ht.len (by omega)).symm)
      have e1:=congrArg St.T g1
      simp only at e1
      rw [←e1,←hdo,←ht.put ho]
     ·have hjm:j≠m:=fun e=>by subst e; rw [hif] at hLj; cases hLj
      unfold D9
      exact Ayr
    ·by_cases hhm:h=m
     ·subst hhm; simp
     ·rw [hbelow h (by omega) hp]; rfl
   | true=>
    have hl:Hy o=true:=by
     unfold SZ at hmay
     rw [ho] at hmay
     simp only [AH] at hmay
     exact hmay.1
    have hg:gB κ ops i i=false:=by
     unfold SZ at hmay
     rw [ho] at hmay
     simpa [hl] using hmay
    obtain ⟨_,rv,ty,esz,els,tmp,e1,e2,_⟩:=Ll (T:=(tr i).T) (H:=(tr i).H) (c:=(tr i).cnt) hl (ht.step i o ho)
    have hnr:norefs els=true:=by
     have:=ht.born i o ho hl hg
     rw [e1,C9] at this
     exact this
    obtain ⟨v,g1,g2⟩:=Gz hlook (e2 (tr m).H (tr m).cnt)
    injection g1 with g1 _
    have hTv:=Pu (T':=CU ops (tr 0).T (D9 κ ops tr m) ops.size (fun j=>listed.getD j false)) g1 (by rw [DF]; exact (ht.len (by omega)).symm)
    rw [←hTv] at g2
    have hst:=(Ll hl g2).1
    have hlo:IF o.op=true:=by
     simp only [Hy,AH] at hl; exact hl.2
    obtain ⟨n,c',w',r1,r2,r3,r4,r5,r6⟩:=Akc hd.sr (Tt hlo hd.sr hst) hnr
    have hfin:wpAny P .any ops Q fuel (listed.setIfInBounds i true) (a1.put o.dst c') w':=by
     refine hK _ w' _ loc1 m ⟨hcl',hd.ml,fun h hlt hp=>by rw [hd.lo h hlt hp]; rfl,?_,hd.ev.trans r4,fun k=>if k=i then w1.heap.size else bf k,?_,?_⟩
     ·rw [Mf hif ops.size DO hfree]
      have hvm:D9 κ ops tr m i=.jk:=by unfold D9; rw [if_pos ⟨hmi,hh⟩]
      rw [hvm,hdo]
      exact r3
     ·intro k hk hmk hLk
      by_cases hki:k=i
      ·subst hki
       simp only [lx8]
       refine ⟨hd.ev.size,hmay,o,rv,ty,esz,els,tmp,ho,e1,r5,fun d hdd hlt=>r6 d hdd (by rw [DF]; exact hlt)⟩
      ·have hq:(k == i)=false:=by simpa using hki
       simp only [hq,Qy] at hLk
       simp only [hki,lx9]
       exact (p1 k hk hmk hLk).mono hB ho (fun e=>hki e.symm) r4 hd.sr.hr
     ·intro k k' c1 c2 c3 d1 d2 d3 he
      by_cases hki:k=i <;> by_cases hki':k'=i
      ·rw [hki,hki']
      ·exfalso
       have hq:(k' == i)=false:=by simpa using hki'
       simp only [hq,Qy] at d3
       simp only [hki,hki',lx8,lx9] at he
       obtain ⟨_,_,_,_,_,_,_,_,_,_,hbn,_⟩:=p1 k' d1 d2 d3
       have:=hbn.lt
       omega
      ·exfalso
       have hq:(k == i)=false:=by simpa using hki
       simp only [hq,Qy] at c3
       simp only [hki,hki',lx8,lx9] at he
       obtain ⟨_,_,_,_,_,_,_,_,_,_,hbn,_⟩:=p1 k c1 c2 c3
       have:=hbn.lt
       omega
      ·have hq:(k == i)=false:=by simpa using hki
       have hq':(k' == i)=false:=by simpa using hki'
       simp only [hq,hq',Qy] at c3 d3
       simp only [hki,hki',lx9] at he
       exact p2 k k' c1 c2 c3 d1 d2 d3 he
    have hw:Region.wanted o (yielded ops a1.tmps)=true:=by
     simp only [Hy,AH,Option.isNone_iff_eq_none] at hl
     unfold Region.wanted; rw [hl.1]
    unfold wpOp
    rw [ho]
    simp only [hw,lx8]
    refine .inl ?_
    unfold Oper.wp
    rw [r1]
    rcases r2 with r2 | ⟨r2,r2'⟩
    ·rw [r2]; exact hfin
    ·rw [r2]; subst r2'; exact hfin
theorem Pj (hE:EnvOk P E) (hm:P.follows .mixedOrders=true) {id:Nat} (hB:Fc κ ops=true) (ht:Trace P E κ ops tr) (hs:SR w X loc (tr 0) a) {Q:Exit→Act→World→Prop}
  (hQ:∀ a' w' X' loc',SR w' X' loc' (tr ops.size) a'→Evo w X ((tr 0).hc loc) w' X' ((tr ops.size).hc loc')→Q .normal a' w'):(Code.region id ops true).wp P Q a w:=by
 refine wp_region_any hm ?_
 have hb:Below w.heap.size w { w with drawn:=w.drawn+1 }:=⟨rfl,rfl,rfl,Av _,fun _ _=>rfl⟩
 have hf:∀ j,(Array.replicate ops.size false).getD j false=false:=by
  intro j
  rcases D0 j ops.size with h | h
  ·simp [h]
  ·simp [h]
 refine W4 (w:=w) (X:=X) (loc:=loc) hE hB ht hQ ops.size (Array.replicate ops.size false) a _ X loc 0 (by simp) ⟨?_,Bq _,fun h hh=>by omega,?_,DL hb X _,fun _=>0,?_,?_⟩ ?_
 ·intro j oj hoj hLj
  have hLj':(Array.replicate ops.size false).getD j false=true:=hLj
  rw [hf] at hLj'; cases hLj'
 ·have e:CU ops (tr 0).T (D9 κ ops tr 0) ops.size (fun j=>(Array.replicate ops.size false).getD j false)=(tr 0).T:=by
   have:=Me (ops:=ops) (T0:=(tr 0).T) (val:=D9 κ ops tr 0) (L:=fun j=>(Array.replicate ops.size false).getD j false) (i:=0) (fun j _=>hf j) ops.size
   rw [CL] at this
   rw [this]; rfl
  rw [e]
  exact hs.below hb
 ·intro k _ _ hL
  rw [hf] at hL; cases hL
 ·intro k k' _ _ hL
  rw [hf] at hL; cases hL
 ·unfold OF
  refine Qv (List.length_filter_le _ _) ?_
  simp
end
def GC:List Nat→Nat→Nat
 | [],_=>0
 | i::r,j=>if (i == j)=true then 0 else GC r j+1
def Az2 (π:List Nat) (af:Array Edge):Array Edge:=af.map fun e=>{ e with on:=GC π e.on }
def Beb (π:List Nat):Option (Nat × Bool)→Option (Nat × Bool)
 | none=>none
 | some g=>some (GC π g.1,g.2)
def Vh (π:List Nat) (o:Oper):Oper:=⟨o.dst,o.op,o.type,o.pos,Az2 π o.after,Beb π o.guard⟩
def Ad5 (π:List Nat):Option Oper→List Oper→List Oper
 | some o,r=>Vh π o::r
 | none,r=>r
def Tz (ops:Array Oper) (π:List Nat):List Nat→List Oper
 | []=>[]
 | i::r=>Ad5 π ops[i]? (Tz ops π r)
def BW (ops:Array Oper) (π:List Nat):Array Oper:=(Tz ops π π).toArray
def Gn (π:List Nat) (n:Nat):Bool:=π.length == n && ((List.range n).all fun p=>match π[p]? with | some i=>decide (i < n) && GC π i == p | none=>false) &&
 (List.range n).all fun i=>decide (GC π i < n) && π[GC π i]? == some i
theorem TA {ops:Array Oper} {π:List Nat}:∀ {l:List Nat},(∀ i ∈ l,i < ops.size)→(Tz ops π l).length=l.length∧∀ p:Nat,(Tz ops π l)[p]?=(l[p]?).bind fun i=>(ops[i]?).map (Vh π)
 | [],_=>⟨rfl,fun p=>by simp [Tz]⟩
 | i::r,h=>by
  obtain ⟨h1,h2⟩:=TA (ops:=ops) (π:=π) (l:=r) (fun j hj=>h j (lx48 _ hj))
  have hi:=h i lx47
  have ho:ops[i]?=some ops[i]:=by simp [hi]
  rw [Tz,ho]
  refine ⟨by simp [Ad5,h1],fun p=>?_⟩
  cases p with
  | zero=>simp [Ad5,ho]
  | succ p=>simp only [Ad5,lx53,h2 p]
section
variable {P:Program} {ops:Array Oper} {π:List Nat} {Q:Exit→Act→World→Prop}
theorem Hz (h:Gn π ops.size=true):π.length=ops.size∧(∀ p i,p < ops.size→π[p]?=some i→i < ops.size∧GC π i=p)∧(∀ p,p < ops.size→∃ i,π[p]?=some i)∧∀ i,i < ops.size→GC π i < ops.size∧π[GC π i]?=some i:=by
 simp only [Gn,AH,lx86] at h
 obtain ⟨⟨h1,h2⟩,h3⟩:=h
 refine ⟨h1,fun p i hp hi=>?_,fun p hp=>⟨π[p]'(by omega),by simp⟩,fun i hi=>?_⟩
 ·have:=lx28.1 h2 p (Hr.2 hp)
  simp only [hi,AH,Bw,lx86] at this
  exact this
 ·have:=lx28.1 h3 i (Hr.2 hi)
  simp only [AH,Bw,lx86] at this
  exact this
theorem Vi:∀ {π:List Nat} {j:Nat},(∀ i ∈ π,i≠j)→GC π j=π.length
 | [],j,_=>rfl
 | i::r,j,h=>by
  have hi:(i == j)=false:=by simpa using h i lx47
  rw [GC,hi,if_neg (by decide),Vi (fun x hx=>h x (lx48 _ hx))]; rfl
theorem Ic (h:Gn π ops.size=true):(BW ops π).size=ops.size∧(∀ i,(BW ops π)[GC π i]?=(ops[i]?).map (Vh π))∧∀ p,p < ops.size→∃ i,i < ops.size∧GC π i=p:=by
 obtain ⟨h1,h2,h3,h4⟩:=Hz h
 have hm:∀ i ∈ π,i < ops.size:=by
  intro i hi
  obtain ⟨p,hp⟩:=lx44.1 hi
  have hlt:=(lx22.1 hp).1
  exact (h2 p i (by omega) hp).1
 obtain ⟨g1,g2⟩:=TA (ops:=ops) (π:=π) hm
 refine ⟨by simp [BW,g1,h1],fun i=>?_,fun p hp=>?_⟩
 ·simp only [BW,lx39]
  rw [g2]
  by_cases hi:i < ops.size
  ·rw [(h4 i hi).2]; rfl
  ·have hge:GC π i=π.length:=Vi (fun j hj e=>hi (by rw [←e]; exact hm j hj))
   rw [hge,lx30 (Av _),Array.getElem?_eq_none (by omega)]; rfl
 ·obtain ⟨i,hi⟩:=h3 p hp
  exact ⟨i,(h2 p i hp hi).1,(h2 p i hp hi).2⟩
def RelL (π:List Nat) (n:Nat) (l l':Array Bool):Prop:=l.size=n∧l'.size=n∧∀ i,i < n→l.getD i false=l'.getD (GC π i) false
theorem RelL.get (h:Gn π ops.size=true) {l l':Array Bool} (hr:RelL π ops.size l l') (j:Nat):l.getD j false=l'.getD (GC π j) false:=by
 by_cases hj:j < ops.size
 ·exact hr.2.2 j hj
 ·obtain ⟨h1,h2,h3,h4⟩:=Hz h
  have hge:GC π j=π.length:=Vi (fun i hi e=>by
   obtain ⟨p,hp⟩:=lx44.1 hi
   have hlt:=(lx22.1 hp).1
   have:=(h2 p i (by omega) hp).1
   omega)
  rw [hge,h1]
  have e1:=hr.1
  have e2:=hr.2.1
  simp [Array.getD,e1,e2,hj]
theorem Lp (h:Gn π ops.size=true) {l l':Array Bool} (hr:RelL π ops.size l l') {i:Nat} (hi:i < ops.size):i ∈ Region.ready .any ops l↔GC π i ∈ Region.ready .any (BW ops π) l':=by
 obtain ⟨g1,g2,g3⟩:=Ic h
 obtain ⟨h1,h2,h3,h4⟩:=Hz h
 have hlt:=(h4 i hi).1
 have hge:=hr.get h
 have e1:=hr.1
 have e2:=hr.2.1
 have ht:∀ (o:Oper),(∀ e ∈ o.after,Region.binds .any e=true→l.getD e.on false=true)↔∀ e ∈ (Vh π o).after,Region.binds .any e=true→l'.getD e.on false=true:=by
  intro o
  constructor
  ·intro hh e he hb
   simp only [Vh,Az2,Array.mem_map] at he
   obtain ⟨e0,q1,rfl⟩:=he
   rw [←hge e0.on]
   exact hh e0 q1 hb
  ·intro hh e he hb
   have:=hh { e with on:=GC π e.on } (by simp only [Vh,Az2,Array.mem_map]; exact ⟨e,he,rfl⟩) hb
   rw [hge e.on]; exact this
 constructor
 ·intro hh
  obtain ⟨o,ho,k1,k2⟩:=Em hh
  refine Q1 (o:=Vh π o) (by rw [g2,ho]; rfl) ?_ ((ht o).1 k2)
  rw [GB (by omega),←hge,←GB (by omega)]; exact k1
 ·intro hh
  obtain ⟨o',ho',k1,k2⟩:=Em hh
  have ho:ops[i]?=some ops[i]:=by simp [hi]
  rw [g2,ho] at ho'
  simp only [lx34,lx16] at ho'
  subst ho'
  refine Q1 ho ?_ ((ht _).2 k2)
  rw [GB (by omega),hge,←GB (by omega)]; exact k1
theorem Vj (h:Gn π ops.size=true) (T:Array Value) (g:Nat):yielded (BW ops π) T (GC π g)=yielded ops T g:=by
 obtain ⟨g1,g2,g3⟩:=Ic h
 unfold yielded
 rw [g2]
 cases ops[g]? <;> rfl
theorem W5 (h:Gn π ops.size=true) (T:Array Value) (o:Oper):Region.wanted (Vh π o) (yielded (BW ops π) T)=Region.wanted o (yielded ops T):=by
 unfold Region.wanted Vh Beb
 cases hg:o.guard with
 | none=>rfl
 | some g=>simp only [Vj h]
theorem Ahh (h:Gn π ops.size=true) {i:Nat} {K:Act→World→Prop} {a:Act} {w:World} (hh:wpOp P (BW ops π) Q (GC π i) K a w):wpOp P ops Q i K a w:=by
 obtain ⟨g1,g2,g3⟩:=Ic h
 unfold wpOp at hh ⊢
 rw [g2] at hh
 cases ho:ops[i]? with
 | none=>rw [ho] at hh; exact hh
 | some o=>
  rw [ho] at hh
  simp only [lx34] at hh ⊢
  rw [W5 h] at hh
  exact hh
theorem Aax (h:Gn π ops.size=true):∀ (fuel:Nat) (l l':Array Bool) (a:Act) (w:World),RelL π ops.size l l'→wpAny P .any (BW ops π) Q fuel l' a w→wpAny P .any ops Q fuel l a w:=by
 obtain ⟨g1,g2,g3⟩:=Ic h
 obtain ⟨h1,h2,h3,h4⟩:=Hz h
 have hnil:∀ l l',RelL π ops.size l l'→(Region.ready .any ops l=[]↔Region.ready .any (BW ops π) l'=[]):=by
  intro l l' hr
  constructor
  ·intro hh
   cases hq:Region.ready .any (BW ops π) l' with
   | nil=>rfl
   | cons p r=>
    exfalso
    have hp:p ∈ Region.ready .any (BW ops π) l':=by rw [hq]; exact lx47
    obtain ⟨o,ho,_⟩:=Em hp
    have hlt:=(lx49.1 ho).1
    obtain ⟨i,hi,rfl⟩:=g3 p (by omega)
    have:=(Lp h hr hi).2 hp
    rw [hh] at this; cases this
  ·intro hh
   cases hq:Region.ready .any ops l with
   | nil=>rfl
   | cons i r=>
    exfalso
    have hp:i ∈ Region.ready .any ops l:=by rw [hq]; exact lx47
    obtain ⟨o,ho,_⟩:=Em hp
    have:=(Lp h hr (lx49.1 ho).1).1 hp
    rw [hh] at this; cases this
 intro fuel
 induction fuel with
 | zero=>intro l l' a w hr hh; exact ⟨(hnil l l' hr).2 hh.1,hh.2⟩
 | succ fuel ih=>
  intro l l' a w hr hh
  refine ⟨fun hq=>hh.1 ((hnil l l' hr).1 hq),fun i hi=>?_⟩
  obtain ⟨o,ho,_⟩:=Em hi
  have hlt:=(lx49.1 ho).1
  refine Ahh h (wpOp_mono (fun a w hw=>ih _ _ a w ?_ hw) (hh.2 _ ((Lp h hr hlt).1 hi)))
  refine ⟨by simp [hr.1],by simp [hr.2.1],fun j hj=>?_⟩
  have e1:=hr.1
  have e2:=hr.2.1
  have hlj:=(h4 j hj).1
  have hli:=(h4 i hlt).1
  by_cases hij:j=i
  ·subst hij
   have a1:j < l.size:=An
   have a2:GC π j < l'.size:=An
   simp [a1,a2]
  ·have hne:GC π i≠GC π j:=fun e=>by
    have q1:=(h4 i hlt).2
    rw [e,(h4 j hj).2] at q1
    injection q1 with q1
    exact hij q1
   have:=hr.2.2 j hj
   simpa [Array.getD_eq_getD_getElem?,Array.getElem?_setIfInBounds_ne hne,Array.getElem?_setIfInBounds_ne (fun e:i=j=>hij e.symm)] using this
end
section
variable {P:Program} {E:Env} {w:World} {X:Nat→Prop} {loc:Nat→Option (Nat × Nat)} {a:Act} {ops:Array Oper} {tr:Nat→St} {π:List Nat}
theorem Pk (hE:EnvOk P E) (hm:P.follows .mixedOrders=true) {id:Nat} (hp:Gn π ops.size=true) (hB:Fc κ (BW ops π)=true) (ht:Trace P E κ (BW ops π) tr) (hs:SR w X loc (tr 0) a) {Q:Exit→Act→World→Prop}
  (hQ:∀ a' w' X' loc',SR w' X' loc' (tr (BW ops π).size) a'→Evo w X ((tr 0).hc loc) w' X' ((tr (BW ops π).size).hc loc')→Q .normal a' w'):(Code.region id ops true).wp P Q a w:=by
 refine wp_region_any hm ?_
 have hb:Below w.heap.size w { w with drawn:=w.drawn+1 }:=⟨rfl,rfl,rfl,Av _,fun _ _=>rfl⟩
 have hf:∀ n j,(Array.replicate n false).getD j false=false:=by
  intro n j
  rcases D0 j n with h | h
  ·simp [h]
  ·simp [h]
 obtain ⟨g1,_,_⟩:=Ic hp
 refine Aax hp ops.size (Array.replicate ops.size false) (Array.replicate (BW ops π).size false) a _ ⟨by simp,by simp [g1],fun i hi=>by rw [hf,hf]⟩ ?_
 rw [←g1]
 refine W4 (w:=w) (X:=X) (loc:=loc) hE hB ht hQ (BW ops π).size (Array.replicate (BW ops π).size false) a _ X loc 0 (by simp) ⟨?_,Bq _,fun h hh=>by omega,?_,DL hb X _,fun _=>0,?_,?_⟩ ?_
 ·intro j oj hoj hLj
  have hLj':(Array.replicate (BW ops π).size false).getD j false=true:=hLj
  rw [hf] at hLj'; cases hLj'
 ·have e:CU (BW ops π) (tr 0).T (D9 κ (BW ops π) tr 0) (BW ops π).size (fun j=>(Array.replicate (BW ops π).size false).getD j false)=(tr 0).T:=by
   have:=Me (ops:=BW ops π) (T0:=(tr 0).T) (val:=D9 κ (BW ops π) tr 0) (L:=fun j=>(Array.replicate (BW ops π).size false).getD j false) (i:=0) (fun j _=>hf _ j) (BW ops π).size
   rw [CL] at this
   rw [this]; rfl
  rw [e]
  exact hs.below hb
 ·intro k _ _ hL
  rw [hf] at hL; cases hL
 ·intro k k' _ _ hL
  rw [hf] at hL; cases hL
 ·unfold OF
  refine Qv (List.length_filter_le _ _) ?_
  simp
end
def Ahi:Operand→Bool
 | .const (.slice none 0 0)=>true
 | _=>false
def AE:Op→Bool
 | .binOp _ _ _ y _=>!Ahi y
 | .move _ | .assign _ | .pick .. | .unOp .. | .convert .. | .field .. | .extract .. | .build .. | .index .. | .makeFunc ..=>true
 | .call { callee:=.builtin .min,.. } | .call { callee:=.builtin .max,.. }=>true
 | _=>false
section
variable {P:Program} {E:Env} {ops:Array Oper}
theorem W6 {op:Op} (h:AE op=true) (T:List AV) (H H2:List Blk) (c c2:Nat):Ay P ⟨T,H,c⟩ op=Ay P ⟨T,H2,c2⟩ op:=by
 cases op with
 | call cl=>
  obtain ⟨cal,args,ats⟩:=cl
  cases cal with
  | builtin b=>cases b <;> first | (simp [AE] at h; done) | rfl
  | _=>simp [AE] at h
 | makeFunc f first caps=>cases f <;> rfl
 | binOp op t x y t'=>
  simp only [AE,Jt] at h
  have hn:∀ u,Ah5 P op t u y=none:=by
   intro u
   unfold Ah5
   split
   ·simp [Ahi] at h
   ·rfl
  simp only [Ay,Ti,hn]
 | _=>first | (simp [AE] at h; done) | rfl
theorem KZ {op:Op} (h:AE op=true):Bk op=false∧BY κ op=false:=by
 cases op with
 | call cl=>
  obtain ⟨cal,args,ats⟩:=cl
  cases cal with
  | builtin b=>cases b <;> first | (simp [AE] at h; done) | exact ⟨rfl,rfl⟩
  | _=>simp [AE] at h
 | _=>first | (simp [AE] at h; done) | exact ⟨rfl,rfl⟩
theorem OG {o:Oper} (h:AE o.op=true) {T T':List AV} {H H1 H2:List Blk} {c c1 c2:Nat} (hs:Ag P E ops ⟨T,H,c⟩ o=some ⟨T',H1,c1⟩):Ag P E ops ⟨T,H2,c2⟩ o=some ⟨T',H2,c2⟩:=by
 obtain ⟨k1,k2⟩:=KZ (κ:=fun _=>false) h
 have k2:=Acz k2
 have p1:∀ H c,AQ E ⟨T,H,c⟩ o.op=true:=fun H c=>by simp [AQ,k1,k2]
 have p2:∀ H c,Jv P E ⟨T,H,c⟩ o.op=Ay P ⟨T,H,c⟩ o.op:=fun H c=>by simp [Jv,k1]
 have r:=W6 (P:=P) h T H H2 c c2
 have hg:∀ j,Ao ops ⟨T,H,c⟩ j=Ao ops ⟨T,H2,c2⟩ j:=fun j=>rfl
 unfold Ag at hs ⊢
 simp only [p1,p2,lx8] at hs ⊢
 rw [←r]
 split at hs
 ·simp only [lx24] at hs
  obtain ⟨v,hv,hs⟩:=hs
  rw [Bt] at hs
  cases hs
  rw [hv]; simp [Bt]
 ·rename_i j want hgd
  rw [←hg j]
  split at hs
  ·rename_i b hb
   simp only [lx24] at hs ⊢
   obtain ⟨v,hv,hs⟩:=hs
   rw [Bt] at hs
   cases hs
   exact ⟨v,hv,by rw [Bt]⟩
  ·rw [Bt] at hs
   cases hs
   rw [Bt]
  ·cases hs
structure Past where
 at_:Nat
 H:List Blk
 c:Nat
structure Did where
 at_:Nat
 o:Oper
 T:List AV
 T':List AV
def Chk (κ:Nat→Bool) (ops:Array Oper) (i k:Nat) (p:Prop):Prop:=gB κ ops i k=false→p
def K1 (κ:Nat→Bool) (ops:Array Oper) (i:Nat) (H':List Blk):Op→Prop
 | .buildSlice ..=>Chk κ ops i i (norefs (Cs H')=true)
 | _=>True
def Vk (P:Program) (E:Env) (ops:Array Oper) (i:Nat) (o:Oper) (T T':List AV):List Past→Prop
 | []=>True
 | h::r=>Chk E.hb ops h.at_ i (Ag P E ops ⟨T,h.H,h.c⟩ o=some ⟨T',h.H,h.c⟩)∧Vk P E ops i o T T' r
def chkF (P:Program) (E:Env) (ops:Array Oper) (k:Nat) (H:List Blk) (c:Nat):List Did→Prop
 | []=>True
 | d::r=>Chk E.hb ops d.at_ k (Ag P E ops ⟨d.T,H,c⟩ d.o=some ⟨d.T',H,c⟩)∧chkF P E ops k H c r
theorem W7 {i o T T'}:∀ {hs:List Past},Vk P E ops i o T T' hs→∀ h ∈ hs,Chk E.hb ops h.at_ i (Ag P E ops ⟨T,h.H,h.c⟩ o=some ⟨T',h.H,h.c⟩)
 | [],_,h,hm=>by cases hm
 | x::r,hc,h,hm=>by
  rcases lx59.1 hm with rfl | hm
  ·exact hc.1
  ·exact W7 hc.2 h hm
theorem W8 {k H c}:∀ {ds:List Did},chkF P E ops k H c ds→∀ d ∈ ds,Chk E.hb ops d.at_ k (Ag P E ops ⟨d.T,H,c⟩ d.o=some ⟨d.T',H,c⟩)
 | [],_,h,hm=>by cases hm
 | x::r,hc,h,hm=>by
  rcases lx59.1 hm with rfl | hm
  ·exact hc.1
  ·exact W8 hc.2 h hm
def Dj (P:Program) (E:Env) (ops:Array Oper) (K:St→Prop):List Oper→Nat→St→List Past→List Did→Prop
 | [],_,s,_,_=>K s
 | o::r,i,s,hs,ds=>∃ s',Ag P E ops s o=some s'∧
   if BY E.hb o.op=false then
    if AE o.op=true then Dj P E ops K r (i+1) s' hs ds
    else (s'.H=s.H∧s'.cnt=s.cnt)∧Vk P E ops i o s.T s'.T hs∧Dj P E ops K r (i+1) s' hs (⟨i,o,s.T,s'.T⟩::ds)
   else chkF P E ops i s'.H s'.cnt ds∧K1 E.hb ops i s'.H o.op∧Dj P E ops K r (i+1) s' (⟨i,s.H,s.cnt⟩::hs) ds
theorem Eu {K:St→Prop}:∀ (l:List Oper) (i:Nat) (s:St) (hs:List Past) (ds:List Did),Dj P E ops K l i s hs ds↔∃ s1,Dj P E ops (·=s1) l i s hs ds∧K s1
 | [],i,s,hs,ds=>by simp [Dj]
 | o::r,i,s,hs,ds=>by
  simp only [Dj]
  constructor
  ·rintro ⟨s',h1,h2⟩
   split at h2
   ·split at h2
    ·obtain ⟨s1,g1,g2⟩:=(Eu r _ _ _ _).1 h2
     rename_i hp hn
     exact ⟨s1,⟨s',h1,by rw [if_pos hp,if_pos hn]; exact g1⟩,g2⟩
    ·obtain ⟨s1,g1,g2⟩:=(Eu r _ _ _ _).1 h2.2.2
     rename_i hp hn
     exact ⟨s1,⟨s',h1,by rw [if_pos hp,if_neg hn]; exact ⟨h2.1,h2.2.1,g1⟩⟩,g2⟩
   ·obtain ⟨s1,g1,g2⟩:=(Eu r _ _ _ _).1 h2.2.2
    rename_i hp
    exact ⟨s1,⟨s',h1,by rw [if_neg hp]; exact ⟨h2.1,h2.2.1,g1⟩⟩,g2⟩
  ·rintro ⟨s1,⟨s',h1,h2⟩,g2⟩
   refine ⟨s',h1,?_⟩
   split at h2
   ·split at h2
    ·rename_i hp hn
     rw [if_pos hp,if_pos hn]
     exact (Eu r _ _ _ _).2 ⟨s1,h2,g2⟩
    ·rename_i hp hn
     rw [if_pos hp,if_neg hn]
     exact ⟨h2.1,h2.2.1,(Eu r _ _ _ _).2 ⟨s1,h2.2.2,g2⟩⟩
   ·rename_i hp
    rw [if_neg hp]
    exact ⟨h2.1,h2.2.1,(Eu r _ _ _ _).2 ⟨s1,h2.2.2,g2⟩⟩
def EI (P:Program) (E:Env) (ops:Array Oper) (s:St):Nat→St
 | 0=>s
 | i+1=>match ops[i]? with
  | some o=>(Ag P E ops (EI P E ops s i) o).getD (EI P E ops s i)
  | none=>EI P E ops s i
theorem Mg {s0 s1:St}:∀ (l:List Oper) (i:Nat) (hs:List Past) (ds:List Did),ops.toList.drop i=l→i≤ops.size→
  (∀ j o,j < i→ops[j]?=some o→Ag P E ops (EI P E ops s0 j) o=some (EI P E ops s0 (j+1)))→
  (∀ j,j < i→hd E.hb ops (EI P E ops s0) j→⟨j,(EI P E ops s0 j).H,(EI P E ops s0 j).cnt⟩ ∈ hs)→
  (∀ j o,j < i→ops[j]?=some o→BY E.hb o.op=false→(EI P E ops s0 (j+1)).H=(EI P E ops s0 j).H∧(EI P E ops s0 (j+1)).cnt=(EI P E ops s0 j).cnt)→
  (∀ j o,j < i→ops[j]?=some o→BY E.hb o.op=false→AE o.op=false→⟨j,o,(EI P E ops s0 j).T,(EI P E ops s0 (j+1)).T⟩ ∈ ds)→
  (∀ j o h,j < i→ops[j]?=some o→BY E.hb o.op=false→h < j→hd E.hb ops (EI P E ops s0) h→gB E.hb ops h j=false→
   Ag P E ops ⟨(EI P E ops s0 j).T,(EI P E ops s0 h).H,(EI P E ops s0 h).cnt⟩ o=some ⟨(EI P E ops s0 (j+1)).T,(EI P E ops s0 h).H,(EI P E ops s0 h).cnt⟩)→
  (∀ j o h,h < i→ops[j]?=some o→BY E.hb o.op=false→j < h→hd E.hb ops (EI P E ops s0) h→before ops j h=false→
   Ag P E ops ⟨(EI P E ops s0 j).T,(EI P E ops s0 (h+1)).H,(EI P E ops s0 (h+1)).cnt⟩ o=some ⟨(EI P E ops s0 (j+1)).T,(EI P E ops s0 (h+1)).H,(EI P E ops s0 (h+1)).cnt⟩)→
  (∀ j o,j < i→ops[j]?=some o→Hy o=true→gB E.hb ops j j=false→norefs (Cs (EI P E ops s0 (j+1)).H)=true)→
  Dj P E ops (·=s1) l i (EI P E ops s0 i) hs ds→Trace P E E.hb ops (EI P E ops s0)∧EI P E ops s0 ops.size=s1
 | [],i,hs,ds,hl,hi,h1,h2,hk,h3,h4,h5,h6,h=>by
  have DO:i=ops.size:=by
   rcases D0 i ops.size with hlt | hge
   ·have:i < ops.toList.length:=by simpa using hlt
    rw [lx76 this] at hl; cases hl
   ·omega
  subst DO
  refine ⟨⟨fun j o ho=>h1 j o (lx49.1 ho).1 ho,fun j o ho=>hk j o (lx49.1 ho).1 ho,fun j o k ho hp hk hh hb=>h4 j o k (lx49.1 ho).1 ho hp hk hh hb,
   fun j o k ho hp hk hh hb=>h5 j o k ?_ ho hp hk hh hb,fun j o ho hl hg=>h6 j o (lx49.1 ho).1 ho hl hg⟩,h⟩
  obtain ⟨ok,hok,_⟩:=hh
  exact (lx49.1 hok).1
 | o::r,i,hs,ds,hl,hi,h1,h2,hk,h3,h4,h5,h6,h=>by
  have hlt:i < ops.toList.length:=by
   rcases D0 i ops.toList.length with h | h
   ·exact h
   ·rw [lx75 h] at hl; cases hl
  have hlt':i < ops.size:=by simpa using hlt
  rw [lx76 hlt] at hl
  injection hl with ho0 hr
  have ho:ops[i]?=some o:=by rw [←ho0]; simp [hlt']
  obtain ⟨s',Aw,hrest⟩:=h
  have hs':EI P E ops s0 (i+1)=s':=by simp only [EI,ho,Aw,lx4]
  have n1:∀ j o',j < i+1→ops[j]?=some o'→Ag P E ops (EI P E ops s0 j) o'=some (EI P E ops s0 (j+1)):=by
   intro j o' hj hoj
   rcases D0 j i with hji | hji
   ·exact h1 j o' hji hoj
   ·have:j=i:=by omega
    subst this
    rw [ho] at hoj; cases hoj
    rw [hs']; exact Aw
  rw [←hs'] at hrest
  cases hp:BY E.hb o.op with
  | false=>
   rw [hp,if_pos rfl] at hrest
   have nh:¬ hd E.hb ops (EI P E ops s0) i:=by
    rintro ⟨o',ho',hq⟩
    rw [ho] at ho'; cases ho'
    rw [hp] at hq; cases hq
   have n2:∀ j,j < i+1→hd E.hb ops (EI P E ops s0) j→⟨j,(EI P E ops s0 j).H,(EI P E ops s0 j).cnt⟩ ∈ hs:=by
    intro j hj hh
    rcases D0 j i with hji | hji
    ·exact h2 j hji hh
    ·have:j=i:=by omega
     subst this; exact absurd hh nh
   have n5:∀ j o' h,h < i+1→ops[j]?=some o'→BY E.hb o'.op=false→j < h→hd E.hb ops (EI P E ops s0) h→before ops j h=false→
     Ag P E ops ⟨(EI P E ops s0 j).T,(EI P E ops s0 (h+1)).H,(EI P E ops s0 (h+1)).cnt⟩ o'=some ⟨(EI P E ops s0 (j+1)).T,(EI P E ops s0 (h+1)).H,(EI P E ops s0 (h+1)).cnt⟩:=by
    intro j o' k hk hoj hpj hjk hh hb
    rcases D0 k i with hki | hki
    ·exact h5 j o' k hki hoj hpj hjk hh hb
    ·have:k=i:=by omega
     subst this; exact absurd hh nh
   have n6:∀ j o',j < i+1→ops[j]?=some o'→Hy o'=true→gB E.hb ops j j=false→norefs (Cs (EI P E ops s0 (j+1)).H)=true:=by
    intro j o' hj hoj hl hg
    rcases D0 j i with hji | hji
    ·exact h6 j o' hji hoj hl hg
    ·have:j=i:=by omega
     subst this
     rw [ho] at hoj; cases hoj
     simp only [Hy,AH] at hl
     rw [Acy (OD hl.2).1] at hp; cases hp
   have nk:((EI P E ops s0 (i+1)).H=(EI P E ops s0 i).H∧(EI P E ops s0 (i+1)).cnt=(EI P E ops s0 i).cnt)→∀ j o',j < i+1→ops[j]?=some o'→BY E.hb o'.op=false→
     (EI P E ops s0 (j+1)).H=(EI P E ops s0 j).H∧(EI P E ops s0 (j+1)).cnt=(EI P E ops s0 j).cnt:=by
    intro hki j o' hj hoj hpj
    rcases D0 j i with hji | hji
    ·exact hk j o' hji hoj hpj
    ·have:j=i:=by omega
     subst this; exact hki
   cases hn:AE o.op with
   | true=>
    rw [hn,if_pos rfl] at hrest
    have hki:=NN (s:=EI P E ops s0 i) (by
     obtain ⟨k1,k2⟩:=KZ (κ:=E.hb) hn
     simp [AQ,k1,Acz k2]) (n1 i o (by omega) ho)
    refine Mg r (i+1) hs ds hr (by omega) n1 n2 (nk hki) ?_ ?_ n5 n6 hrest
    ·intro j o' hj hoj hpj hnj
     rcases D0 j i with hji | hji
     ·exact h3 j o' hji hoj hpj hnj
     ·have:j=i:=by omega
      subst this
      rw [ho] at hoj; cases hoj
      rw [hn] at hnj; cases hnj
    ·intro j o' k hj hoj hpj hkj hh hb
     rcases D0 j i with hji | hji
     ·exact h4 j o' k hji hoj hpj hkj hh hb
     ·have:j=i:=by omega
      subst this
      rw [ho] at hoj; cases hoj
      exact OG hn (n1 j o (by omega) ho)
   | false=>
    rw [hn,if_neg (by decide)] at hrest
    refine Mg r (i+1) hs _ hr (by omega) n1 n2 (nk hrest.1) ?_ ?_ n5 n6 hrest.2.2
    ·intro j o' hj hoj hpj hnj
     rcases D0 j i with hji | hji
     ·exact lx48 _ (h3 j o' hji hoj hpj hnj)
     ·have:j=i:=by omega
      subst this
      rw [ho] at hoj; cases hoj
      exact lx47
    ·intro j o' k hj hoj hpj hkj hh hb
     rcases D0 j i with hji | hji
     ·exact h4 j o' k hji hoj hpj hkj hh hb
     ·have:j=i:=by omega
      subst this
      rw [ho] at hoj; cases hoj
      exact W7 hrest.2.1 _ (h2 k hkj hh) hb
  | true=>
   rw [hp,if_neg (by decide)] at hrest
   refine Mg r (i+1) _ ds hr (by omega) n1 ?_ ?_ ?_ ?_ ?_ ?_ hrest.2.2
   ·intro j hj hh
    rcases D0 j i with hji | hji
    ·exact lx48 _ (h2 j hji hh)
    ·have:j=i:=by omega
     subst this; exact lx47
   ·intro j o' hj hoj hpj
    rcases D0 j i with hji | hji
    ·exact hk j o' hji hoj hpj
    ·exact Ayj
   ·intro j o' hj hoj hpj hnj
    rcases D0 j i with hji | hji
    ·exact h3 j o' hji hoj hpj hnj
    ·exact Ayj
   ·intro j o' k hj hoj hpj hkj hh hb
    rcases D0 j i with hji | hji
    ·exact h4 j o' k hji hoj hpj hkj hh hb
    ·exact Ayj
   ·intro j o' k hk hoj hpj hjk hh hb
    rcases D0 k i with hki | hki
    ·exact h5 j o' k hki hoj hpj hjk hh hb
    ·have:k=i:=by omega
     subst this
     cases hnj:AE o'.op with
     | true=>exact OG hnj (n1 j o' (by omega) hoj)
     | false=>exact W8 hrest.1 _ (h3 j o' hjk hoj hpj hnj) (by rw [Bea (by unfold Bu; rw [hoj]; exact hpj)]; exact hb)
   ·intro j o' hj hoj hl hg
    rcases D0 j i with hji | hji
    ·exact h6 j o' hji hoj hl hg
    ·have:j=i:=by omega
     subst this
     rw [ho] at hoj; cases hoj
     have hst:=n1 j o (by omega) ho
     obtain ⟨_,rv,ty,esz,els,tmp,e1,_,e3⟩:=Ll (T:=(EI P E ops s0 j).T) (H:=(EI P E ops s0 j).H) (c:=(EI P E ops s0 j).cnt) hl hst
     by_cases hb:∃ t n parts,o.op=.buildSlice t n parts
     ·obtain ⟨t,n,parts,hb⟩:=hb
      have:=hrest.2.1
      rw [hb] at this
      exact this hg
     ·rw [e1,C9]
      exact e3 fun t n parts e=>hb ⟨t,n,parts,e⟩
theorem IJ {s0 s1:St} (h:Dj P E ops (·=s1) ops.toList 0 s0 [] []):∃ tr,Trace P E E.hb ops tr∧tr 0=s0∧tr ops.size=s1:=by
 obtain ⟨h1,h2⟩:=Mg (s0:=s0) (s1:=s1) ops.toList 0 [] [] rfl (Bq _) (fun j o hj=>by omega) (fun j hj=>by omega) (fun j o hj=>by omega) (fun j o hj=>by omega) (fun j o k hj=>by omega) (fun j o k hk=>by omega) (fun j o hj=>by omega) h
 exact ⟨_,h1,rfl,h2⟩
theorem Ad6 {op:Op} (h1:Bk op=false) (h2:isHeapOp op=false):BY κ op=false:=by
 unfold BY
 split <;> first | rfl | (simp [Bk] at h1; done) | (simp [isHeapOp] at h2; done)
theorem Aki {s:St} {op:Op} (hp:AQ E s op=true):BY E.hb op=false:=by
 cases hc:Bk op with
 | false=>
  refine Ad6 hc ?_
  unfold AQ at hp
  rw [hc] at hp
  simpa using hp
 | true=>
  unfold BY
  split
  all_goals first | rfl | (simp [Bk] at hc; done) | skip
  rename_i g as ts
  unfold AQ at hp
  rw [hc,if_pos rfl] at hp
  have ht:∃ l,EN s (.call ⟨.value (.func g),as,ts⟩)=some (g,l):=⟨_,rfl⟩
  obtain ⟨l,ht⟩:=ht
  rw [ht] at hp
  simp only at hp
  simp [Env.hb,hp]
theorem HP {s1:St}:∀ (l:List Oper) (i:Nat) (s:St) (ds:List Did),Dm P E ops l s=some s1→Dj P E ops (·=s1) l i s [] ds
 | [],i,s,ds,h=>by simp only [Dm,lx16] at h; exact h
 | o::r,i,s,ds,h=>by
  simp only [Dm] at h
  split at h
  ·rename_i hp
   split at h
   ·rename_i s' hs'
    refine ⟨s',hs',?_⟩
    have hh:BY E.hb o.op=false:=Aki hp
    rw [if_pos hh]
    split
    ·exact HP r _ _ _ h
    ·exact ⟨NN hp hs',trivial,HP r _ _ _ h⟩
   ·cases h
  ·cases h
theorem Ea {s1:St}:∀ (l:List Oper) (i:Nat) (s:St) (ds:List Did),l.any EP=false→Dj P E ops (·=s1) l i s [] ds→Dm P E ops l s=some s1
 | [],i,s,ds,_,h=>by simp only [Dm]; exact congrArg some h
 | o::r,i,s,ds,hh,h=>by
  simp only [List.any_cons,Ju] at hh
  have hp:AQ E s o.op=true:=by
   cases hq:AQ E s o.op with
   | true=>rfl
   | false=>rw [Ph hq] at hh; simp at hh
  obtain ⟨s',h1,h2⟩:=h
  have hq:BY E.hb o.op=false:=by
   have:=hh.1
   simp only [EP,Ju] at this
   exact Ad6 this.1 this.2
  rw [if_pos hq] at h2
  simp only [Dm,hp,lx8,h1]
  split at h2
  ·exact Ea r _ _ _ hh.2 h2
  ·exact Ea r _ _ _ hh.2 h2.2.2
def dpA (P:Program) (E:Env) (ops:Array Oper) (K:St→Prop) (o:Oper) (r:List Oper) (i:Nat) (s:St) (hs:List Past) (ds:List Did) (p n:Bool):Option St→Prop
 | some s'=>if p=false then
    if n=true then Dj P E ops K r (i+1) s' hs ds
    else (s'.H=s.H∧s'.cnt=s.cnt)∧Vk P E ops i o s.T s'.T hs∧Dj P E ops K r (i+1) s' hs (⟨i,o,s.T,s'.T⟩::ds)
   else chkF P E ops i s'.H s'.cnt ds∧K1 E.hb ops i s'.H o.op∧Dj P E ops K r (i+1) s' (⟨i,s.H,s.cnt⟩::hs) ds
 | none=>False
variable {K:St→Prop} {o:Oper} {r:List Oper} {i:Nat} {s:St} {hs:List Past} {ds:List Did}
theorem TB:Dj P E ops K [] i s hs ds=K s:=rfl
theorem Q2:Dj P E ops K (o::r) i s hs ds=dpA P E ops K o r i s hs ds (BY E.hb o.op) (AE o.op) (Ag P E ops s o):=by
 simp only [Dj,dpA]
 cases Ag P E ops s o with
 | none=>simp
 | some s'=>simp
theorem Akj (s':St):dpA P E ops K o r i s hs ds false true (some s')=Dj P E ops K r (i+1) s' hs ds:=rfl
theorem Akk (T T':List AV) (H H':List Blk) (c c':Nat):dpA P E ops K o r i ⟨T,H,c⟩ hs ds false false (some ⟨T',H',c'⟩)=((H'=H∧c'=c)∧Vk P E ops i o T T' hs∧Dj P E ops K r (i+1) ⟨T',H',c'⟩ hs (⟨i,o,T,T'⟩::ds)):=rfl
theorem Av9 (n:Bool) (T T':List AV) (H H':List Blk) (c c':Nat):dpA P E ops K o r i ⟨T,H,c⟩ hs ds true n (some ⟨T',H',c'⟩)=(chkF P E ops i H' c' ds∧K1 E.hb ops i H' o.op∧Dj P E ops K r (i+1) ⟨T',H',c'⟩ (⟨i,H,c⟩::hs) ds):=rfl
theorem W9 (T T':List AV):Vk P E ops i o T T' []=True:=rfl
theorem TC (T T':List AV) (j:Nat) (H:List Blk) (c:Nat):Vk P E ops i o T T' (⟨j,H,c⟩::hs)=(Chk E.hb ops j i (Ag P E ops ⟨T,H,c⟩ o=some ⟨T',H,c⟩)∧Vk P E ops i o T T' hs):=rfl
theorem Xa (H:List Blk) (c:Nat):chkF P E ops i H c []=True:=rfl
theorem TD (H:List Blk) (c:Nat) (j:Nat) (o':Oper) (T T':List AV):chkF P E ops i H c (⟨j,o',T,T'⟩::ds)=(Chk E.hb ops j i (Ag P E ops ⟨T,H,c⟩ o'=some ⟨T',H,c⟩)∧chkF P E ops i H c ds):=rfl
theorem OH (H':List Blk) (t:TypeId):K1 E.hb ops i H' (.alloc t)=True:=rfl
theorem TE (H':List Blk) (t:TypeId) (x:Operand):K1 E.hb ops i H' (.box t x)=True:=rfl
theorem OI (H':List Blk) (t:TypeId) (x y:Operand):K1 E.hb ops i H' (.store t x y)=True:=rfl
theorem Q3 (H':List Blk) (t:TypeId) (x y:Operand):K1 E.hb ops i H' (.makeSlice t x y)=True:=rfl
theorem Q4 (H':List Blk) (c:Call):K1 E.hb ops i H' (.call c)=True:=rfl
theorem OJ (H':List Blk) (t:TypeId) (n:Nat) (ps:Array (Nat × Operand)):K1 E.hb ops i H' (.buildSlice t n ps)=Chk E.hb ops i i (norefs (Cs H')=true):=rfl
theorem OK (B:Blk):Cs [B]=B.els:=rfl
theorem Mh (A B:Blk) (r:List Blk):Cs (A::B::r)=Cs (B::r):=rfl
theorem Xb (j k:Nat):Chk E.hb ops j k True=True:=by simp [Chk]
theorem Aa {j k:Nat} {p:Prop} (h:gB E.hb ops j k=true):Chk E.hb ops j k p:=fun h'=>by rw [h] at h'; cases h'
end
end Go.SX
