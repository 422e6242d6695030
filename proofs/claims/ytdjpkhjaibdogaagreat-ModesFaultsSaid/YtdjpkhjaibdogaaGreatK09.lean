/-
  Lemmas towards ModesFaults (joined texts: SXP).
  Conditions: none.
-/
import Derived.Test.YtdjpkhjaibdogaaGreatK01
import Derived.Test.YtdjpkhjaibdogaaGreatK08
import Derived.Orders
set_option linter.unusedSimpArgs false
set_option linter.unusedVariables false
set_option maxRecDepth 100000
namespace Go.SX
open Go.RowKit (Below)
section
variable {P:Program} {E:Env} {w:World} {X:Nat→Prop} {loc:Nat→Option (Nat × Nat)} {s:St} {a:Act}
def YB (P:Program) (w:World) (X:Nat→Prop) (loc:Nat→Option (Nat × Nat)) (s:St) (a:Act) (all:Array Oper) (o:Oper) (s':St):Prop:=
 ∀ (K:Act→World→Prop) (Q:Exit→Act→World→Prop),
  (∀ c w' X' loc',SR w' X' loc' s' (a.put o.dst c)→Evo w X (s.hc loc) w' X' (s'.hc loc')→K (a.put o.dst c) w')→
  if Region.wanted o (yielded all a.tmps)=true then o.wp P a w K Q else K (a.put o.dst undef) w
theorem Xc (s:St) (d:Option Nat) (v:AV) (loc):(s.put d v).hc loc=s.hc loc:=by cases d <;> rfl
theorem Ak7 (hE:EnvOk P E) (hs:SR w X loc s a) {o:Oper} {s':St} (h:Fu P E s o=some s') (K:Act→World→Prop) (Q:Exit→Act→World→Prop)
  (hK:∀ c w' X' loc',SR w' X' loc' s' (a.put o.dst c)→Evo w X (s.hc loc) w' X' (s'.hc loc')→K (a.put o.dst c) w'):o.wp P a w K Q:=by
 unfold Fu at h
 split at h
 ·split at h
  ·rename_i g args ht
   split at h
   ·rename_i r H' cnt' hr
    cases h
    obtain ⟨hc,hcall⟩:=hE.h _ _ _ _ _ _ _ hr
    obtain ⟨cargs,e1,e2⟩:=YA hs ht hc
    have hrun:=E7 e1
    unfold Oper.wp
    rw [hrun]
    refine (hcall w X loc cargs hs.hr e2).mono ?_
    rintro e w' ⟨X',loc',c,he,h1,h2,h3⟩
    subst he
    have base:SR w' X' loc' { s with H:=H',cnt:=cnt' } a:=⟨h1,hs.tm.mono h3 hs.hr,hs.df⟩
    exact hK _ _ X' loc' (base.put o.dst h2) (by rw [Xc]; exact h3)
   ·cases h
  ·cases h
 ·obtain ⟨n,c,w',X',loc',h1,h2,h3,h4⟩:=Ae9 hs h
  exact Ao0
theorem Ak8 (hE:EnvOk P E) (hs:SR w X loc s a) {o:Oper} {v:AV} (h:I0 P E s o.op=some v) (K:Act→World→Prop) (Q:Exit→Act→World→Prop)
  (hK:∀ c w' X' loc',SR w' X' loc' (s.put o.dst v) (a.put o.dst c)→Evo w X (s.hc loc) w' X' ((s.put o.dst v).hc loc')→K (a.put o.dst c) w'):o.wp P a w K Q:=by
 obtain ⟨c,h1,h2⟩:=Si hE hs h
 have hq:=h2 w ⟨rfl,rfl,rfl,Ax _,fun _ _=>rfl⟩
 refine Oper.wp_of_quiet (C:=Below w.heap.size w) (K:=fun a'=>∃ c,a'=a.put o.dst c∧SR w X loc (s.put o.dst v) (a.put o.dst c)) ⟨rfl,rfl,rfl,Ax _,fun _ _=>rfl⟩ ?_ ⟨c,h2,c,rfl,hs.put o.dst h1⟩
 rintro a' w' hw ⟨c',rfl,hsr⟩
 exact hK c' w' X loc (hsr.below hw) (by rw [Xc]; exact DW hw X _)
theorem QR (hE:EnvOk P E) (hs:SR w X loc s a) {all:Array Oper} {o:Oper} {s':St} (h:Ad P E all s o=some s'):YB P w X loc s a all o s':=by
 intro K Q hK
 unfold Ad at h
 have skip:s'=s.put o.dst .un→K (a.put o.dst undef) w:=by
  intro e; subst e
  exact hK _ _ X loc (hs.put o.dst .un) (by rw [Xc]; exact Evo.refl _ _ _)
 split at h
 ·rename_i hg
  have hw:Region.wanted o (yielded all a.tmps)=true:=by unfold Region.wanted; rw [hg]
  rw [if_pos hw]
  exact Anw
 ·rename_i j want hg
  split at h
  ·rename_i b hgv
   have hy:=La hs hgv
   have hw:Region.wanted o (yielded all a.tmps)=(b == want):=by
    unfold Region.wanted; rw [hg]; simp only [hy]; cases b <;> cases want <;> rfl
   rw [hw]
   by_cases hbw:b=want
   ·subst hbw
    simp only [beq_self_eq_true,lx6] at h ⊢
    exact Anw
   ·have hbf:(b == want)=false:=by simpa using hbw
    rw [hbf,if_neg (by simp)]
    simp only [hbw,lx7] at h
    split at h
    ·simp only [lx34,lx16] at h
     exact skip h.symm
    ·cases h; exact skip rfl
  ·rename_i hgv
   have hy:=Ox hs hgv
   have hw:Region.wanted o (yielded all a.tmps)=false:=by
    unfold Region.wanted; rw [hg]; simp only [hy]; rfl
   rw [hw,if_neg (by simp)]
   cases h
   exact skip rfl
  ·cases h
theorem Xd (hE:EnvOk P E) (hs:SR w X loc s a) {all:Array Oper} {o:Oper} {s':St} (h:JH P E all s o=some s'):YB P w X loc s a all o s':=by
 unfold JH Fq at h
 split at h
 rotate_left
 ·exact QR hE hs h
 rename_i hc
 simp only [AH,Option.isNone_iff_eq_none] at hc
 intro K Q hK
 have hw:Region.wanted o (yielded all a.tmps)=true:=by unfold Region.wanted; rw [hc.2]
 rw [if_pos hw]
 obtain ⟨n,c,w',X',loc',h1,h2,h3,h4⟩:=Xb hs hc.1.2 h
 exact Ao0
theorem QS (hE:EnvOk P E) {all:Array Oper} (Q:Exit→Act→World→Prop):∀ (n k:Nat) {w:World} {X:Nat→Prop} {loc:Nat→Option (Nat × Nat)} {s s':St} {a:Act},
  k+n=all.size→Fv P E all (all.toList.drop k) s=some s'→SR w X loc s a→
  (∀ a' w' X' loc',SR w' X' loc' s' a'→Evo w X (s.hc loc) w' X' (s'.hc loc')→Q .normal a' w')→wpOps P all Q (List.range' k n) a w
 | 0,k,w,X,loc,s,s',a,hk,h,hs,hQ=>by
  rw [List.drop_eq_nil_of_le (by simp; omega)] at h
  simp only [Fv,lx16] at h
  subst h
  exact hQ _ _ X loc hs (Evo.refl _ _ _)
 | n+1,k,w,X,loc,s,s',a,hk,h,hs,hQ=>by
  have hlt:k < all.size:=Ah
  rw [lx75 (by simpa using hlt)] at h
  simp only [Fv] at h
  split at h
  ·rename_i s1 h1
   have hst:=Xd hE hs h1
   have hget:all[k]?=some all[k]:=by simp [hlt]
   simp only [List.range'_succ,wpOps,hget]
   have hKK:∀ a' w' X' loc',SR w' X' loc' s1 a'→Evo w X (s.hc loc) w' X' (s1.hc loc')→wpOps P all Q (List.range' (k+1) n) a' w':=by
    intro a' w' X' loc' g1 g2
    exact QS hE Q n (k+1) (by omega) h g1 (fun a2 w2 X2 loc2 k1 k2=>hQ a2 w2 X2 loc2 k1 (g2.trans k2))
   have:=hst (wpOps P all Q (List.range' (k+1) n)) Q (fun c w' X' loc' g1 g2=>hKK _ w' X' loc' g1 g2)
   have harr:all.toList[k]'(by simpa using hlt)=all[k]:=Br
   rw [harr] at this
   split
   ·rename_i hw
    rw [if_pos hw] at this
    exact .inl this
   ·rename_i hw
    rw [if_neg hw] at this
    exact this
  ·cases h
theorem Abb (hE:EnvOk P E) {id:Nat} {ops:Array Oper} {s':St} (h:Fv P E ops ops.toList s=some s') (hs:SR w X loc s a) {Q:Exit→Act→World→Prop}
  (hQ:∀ a' w' X' loc',SR w' X' loc' s' a'→Evo w X (s.hc loc) w' X' (s'.hc loc')→Q .normal a' w'):(Code.region id ops false).wp P Q a w:=by
 refine wp_region ?_
 have:=QS hE (all:=ops) Q ops.size 0 (by omega) (by simpa using h) hs hQ
 rwa [List.range_eq_range']
end
section
variable {P:Program} {E:Env} {T T':List AV} {H H':List Blk} {c c':Nat}
theorem Ml {as:Array Operand} (h:∀ x ∈ as.toList,ev T x=ev T' x):as.toList.map (ev T)=as.toList.map (ev T'):=List.map_congr_left h
theorem MY {ps:Array (Nat × Operand)} (h:∀ x ∈ (ps.toList.map (·.2)),ev T x=ev T' x):(ps.toList.map fun p=>(p.1,ev T p.2))=ps.toList.map fun p=>(p.1,ev T' p.2):=by
 refine List.map_congr_left fun p hp=>?_
 rw [h p.2 (lx35.2 ⟨p,hp,rfl⟩)]
theorem Ij {x:Option Operand} (h:∀ y ∈ x.toArray.toList,ev T y=ev T' y) (d hi:Nat):AT T x d hi=AT T' x d hi:=by
 cases x with
 | none=>rfl
 | some x=>simp only [AT]; rw [h x (by simp [Option.toArray])]
theorem Jd {x:Option Operand} (h:∀ y ∈ x.toArray.toList,ev T y=ev T' y):Fp T x=Fp T' x:=by
 cases x with
 | none=>rfl
 | some x=>simp only [Fp]; rw [h x (by simp [Option.toArray])]
theorem Xe (op:Op) (h:∀ x ∈ op.operands.toList,ev T x=ev T' x):Av P ⟨T,H,c⟩ op=Av P ⟨T',H,c'⟩ op:=by
 cases op with
 | slice t x lo hi mx=>
  simp only [Op.operands,Array.toList_append,lx76] at h
  have hx:=h x (by simp)
  have h1:=fun d k=>Ij (T:=T) (T':=T') (x:=lo) (fun y hy=>h y (.inl (.inl (.inr hy)))) d k
  have h2:=fun d k=>Ij (T:=T) (T':=T') (x:=hi) (fun y hy=>h y (.inl (.inr hy))) d k
  have h3:=fun d k=>Ij (T:=T) (T':=T') (x:=mx) (fun y hy=>h y (.inr hy)) d k
  have k1:=Jd (T:=T) (T':=T') (x:=lo) (fun y hy=>h y (.inl (.inl (.inr hy))))
  have k2:=Jd (T:=T) (T':=T') (x:=hi) (fun y hy=>h y (.inl (.inr hy)))
  have k3:=Jd (T:=T) (T':=T') (x:=mx) (fun y hy=>h y (.inr hy))
  simp only [Av,hx,h1,h2,h3,k1,k2,k3]
 | build t ps=>
  have:=MY (T:=T) (T':=T') (ps:=ps) (by simpa [Op.operands] using h)
  simp only [Av,this]
 | makeFunc f first caps=>
  have:=Ml (T:=T) (T':=T') (as:=caps) (fun x hx=>h x (by simp [Op.operands] at hx ⊢; exact .inr hx))
  cases f <;> simp only [Av,this]
 | call cl=>
  obtain ⟨cal,args,ats⟩:=cl
  have hm:∀ x ∈ args.toList,ev T x=ev T' x:=fun x hx=>h x (by
   simp only [Op.operands,Call.operands]
   simp at hx ⊢
   first | exact .inr hx | exact hx | exact .inl hx)
  have hc:=Ml (as:=args) hm
  cases cal with
  | builtin b=>
   cases b <;> simp only [Av,hc]
   obtain ⟨args⟩:=args
   simp only at hm
   generalize ats.toList=tl
   match tl,args with
   | [],_=>rfl
   | _::_::_,_=>rfl
   | [t],[]=>rfl
   | [t],_::_::_=>rfl
   | [t],[x]=>
    have hx:=hm x (by simp)
    simp only [hx]
  | _=>simp only [Av]
 | _=>simp [Op.operands] at h <;> simp only [Av,h]
theorem Ik {op:Op} (h:∀ x ∈ op.operands.toList,ev T x=ev T' x):E9 ⟨T,H,c⟩ op=E9 ⟨T',H',c'⟩ op:=by
 unfold E9
 cases op with
 | call cl=>
  obtain ⟨cal,args,ats⟩:=cl
  cases cal with
  | value f=>
   have hm:∀ x ∈ args.toList,ev T x=ev T' x:=fun x hx=>h x (by
    simp only [Op.operands,Call.operands]
    simp at hx ⊢
    first | exact .inr hx | exact hx | exact .inl hx)
   have hf:ev T f=ev T' f:=h f (by simp [Op.operands,Call.operands])
   simp only [hf,Ml hm]
  | _=>rfl
 | _=>rfl
theorem Sm {op:Op} (h:∀ x ∈ op.operands.toList,ev T x=ev T' x):AP E ⟨T,H,c⟩ op=AP E ⟨T',H',c'⟩ op:=by
 unfold AP
 rw [Ik (H':=H') (c':=c') h]
theorem Xf {op:Op} (h:∀ x ∈ op.operands.toList,ev T x=ev T' x):I0 P E ⟨T,H,c⟩ op=I0 P E ⟨T',H,c'⟩ op:=by
 unfold I0
 rw [Ik (H':=H) (c':=c') h,Xe (c':=c') op h]
theorem T4 {op:Op} {d:Option Nat} {s':St} (h:∀ x ∈ op.operands.toList,ev T x=ev T' x) (hs:Au P ⟨T,H,c⟩ op d=some s'):
  ∃ v,s'=⟨Dd T d v,s'.H,s'.cnt⟩∧Au P ⟨T',H,c⟩ op d=some ⟨Dd T' d v,s'.H,s'.cnt⟩:=by
 cases op with
 | box t x=>
  have hx:=h x (by simp [Op.operands])
  simp only [Au,←hx] at hs ⊢
  clear hx h
  split at hs
  ·rename_i h1
   cases hs
   refine ⟨_,by rw [Bn],?_⟩
   rw [if_pos h1,Bn,Bn]
  ·cases hs
 | alloc t=>
  simp only [Au] at hs ⊢
  exact Aqp
 | store t x y=>
  exact Anz
 | buildSlice t len ps=>
  have hp:=MY (T:=T) (T':=T') (ps:=ps) (by simpa [Op.operands] using h)
  simp only [Au,←hp] at hs ⊢
  clear hp h
  exact Aqp
 | makeSlice t x y=>
  exact Anz
 | call cl=>
  obtain ⟨cal,args,ats⟩:=cl
  have hm:∀ x ∈ args.toList,ev T x=ev T' x:=fun x hx=>h x (by
   simp only [Op.operands,Call.operands]
   simp at hx ⊢
   first | exact .inr hx | exact hx | exact .inl hx)
  cases cal with
  | builtin b=>
   cases b <;> simp only [Au] at hs <;> first | (cases hs; done) | skip
   ·simp only [Au]
    obtain ⟨args⟩:=args
    simp only at hm hs ⊢
    generalize ats.toList=tl at hs ⊢
    match tl,args,hm,hs with
    | [t,t'],[x,y],hm,hs=>
     exact Aof
   ·simp only [Au]
    obtain ⟨args⟩:=args
    simp only at hm hs ⊢
    generalize ats.toList=tl at hs ⊢
    match tl,args,hm,hs with
    | [t],[x],hm,hs=>
     have hx:=hm x (by simp)
     simp only [←hx] at hs ⊢
     clear hx hm h
     exact Auh
   ·simp only [Au]
    obtain ⟨args⟩:=args
    simp only at hm hs ⊢
    generalize ats.toList=tl at hs ⊢
    match tl,args,hm,hs with
    | [t,t'],[x,y],hm,hs=>
     exact Aof
  | _=>simp only [Au] at hs; cases hs
 | _=>simp only [Au] at hs; cases hs
theorem OC {o:Oper} {s':St} (h:∀ x ∈ o.op.operands.toList,ev T x=ev T' x) (hs:Fu P E ⟨T,H,c⟩ o=some s'):
  ∃ v,s'=⟨Dd T o.dst v,s'.H,s'.cnt⟩∧Fu P E ⟨T',H,c⟩ o=some ⟨Dd T' o.dst v,s'.H,s'.cnt⟩:=by
 unfold Fu at hs ⊢
 split at hs
 ·rename_i hc
  rw [if_pos hc,←Ik (H:=H) (c:=c) h]
  split at hs
  ·rename_i g args ht
   simp only at hs ⊢
   split at hs
   ·rename_i r H1 c1 hr
    cases hs
    simp only [Bn]
    exact ⟨r,rfl,rfl⟩
   ·cases hs
  ·cases hs
 ·rename_i hc
  rw [if_neg hc]
  exact T4 h hs
theorem Gv {ops:Array Oper} {o:Oper} {s':St} (h:∀ t ∈ o.looksAt ops,T.getD t .un=T'.getD t .un) (hs:Ad P E ops ⟨T,H,c⟩ o=some s'):
  ∃ v,s'=⟨Dd T o.dst v,s'.H,s'.cnt⟩∧Ad P E ops ⟨T',H,c⟩ o=some ⟨Dd T' o.dst v,s'.H,s'.cnt⟩:=by
 have h1:∀ x ∈ o.op.operands.toList,ev T x=ev T' x:=by
  intro x hx
  cases x with
  | tmp t=>exact h t (by
    unfold Oper.looksAt
    exact lx77 _ (List.mem_filterMap.2 ⟨.tmp t,hx,rfl⟩))
  | _=>rfl
 have hp:=Xf (P:=P) (E:=E) (H:=H) (c:=c) (c':=c) h1
 have hi:=Sm (E:=E) (H:=H) (c:=c) (H':=H) (c':=c) h1
 unfold Ad at hs ⊢
 rw [←hp,←hi]
 split at hs
 ·split at hs
  ·rename_i hpure
   rw [if_pos hpure]
   exact Aoa
  ·rename_i hpure
   rw [if_neg hpure]
   exact OC h1 hs
 ·rename_i j want hg
  have h2:Ao ops ⟨T,H,c⟩ j=Ao ops ⟨T',H,c⟩ j:=by
   unfold Ao
   cases hd:(ops[j]?).bind (·.dst) with
   | none=>rfl
   | some d=>exact h d (by unfold Oper.looksAt; rw [hg]; simp [hd])
  rw [←h2]
  split at hs
  ·rename_i b hb
   by_cases hpure:AP E ⟨T,H,c⟩ o.op=true
   ·rw [if_pos hpure] at hs ⊢
    exact Aoa
   ·rw [if_neg hpure] at hs ⊢
    by_cases hbw:b=want
    ·rw [if_pos hbw] at hs ⊢
     exact OC h1 hs
    ·rw [if_neg hbw] at hs ⊢
     cases hs
     exact ⟨.un,by rw [Bn],by rw [Bn,Bn]⟩
  ·cases hs
   exact ⟨.un,by rw [Bn],by rw [Bn,Bn]⟩
  ·cases hs
end
def Sn (acc:List Nat) (o:Oper):Nat:=
 o.after.toList.foldl (fun m e=>if Region.binds .any e=true then m ||| (1 <<< e.on) ||| acc.getD e.on 0 else m) 0
def JJ:List Oper→List Nat→List Nat
 | [],acc=>acc
 | o::r,acc=>JJ r (acc++[Sn acc o])
def Aeb (ops:Array Oper):List Nat:=JJ ops.toList []
def before (ops:Array Oper) (i k:Nat):Bool:=((Aeb ops).getD k 0).testBit i
def Gb (ops:Array Oper) (L:Nat→Bool):Prop:=∀ j oj,ops[j]?=some oj→L j=true→∀ e ∈ oj.after,Region.binds .any e=true→L e.on=true
def OD (ops:Array Oper) (L:Nat→Bool) (k:Nat):Prop:=∀ o,ops[k]?=some o→∀ e ∈ o.after,Region.binds .any e=true→L e.on=true
theorem T5 (acc:List Nat) (o:Oper) (i:Nat) (h:(Sn acc o).testBit i=true):∃ e ∈ o.after,Region.binds .any e=true∧(e.on=i∨(acc.getD e.on 0).testBit i=true):=by
 unfold Sn at h
 have key:∀ (l:List Edge) (m:Nat),(l.foldl (fun m e=>if Region.binds .any e=true then m ||| (1 <<< e.on) ||| acc.getD e.on 0 else m) m).testBit i=true→
   m.testBit i=true∨∃ e ∈ l,Region.binds .any e=true∧(e.on=i∨(acc.getD e.on 0).testBit i=true):=by
  intro l
  induction l with
  | nil=>intro m h; exact .inl h
  | cons e l ih=>
   intro m h
   rw [List.foldl_cons] at h
   rcases ih _ h with h1 | ⟨e',he',h1⟩
   ·split at h1
    ·rename_i hb
     rw [Nat.testBit_or,Nat.testBit_or] at h1
     simp only [IX] at h1
     rcases h1 with (h1 | h1) | h1
     ·exact .inl h1
     ·refine .inr ⟨e,lx48,hb,.inl ?_⟩
      rw [Nat.testBit_shiftLeft] at h1
      simp only [AH,AR] at h1
      have:=h1.2
      by_cases hz:i - e.on=0
      ·omega
      ·obtain ⟨q,hq⟩:∃ q,i - e.on=q+1:=⟨i - e.on - 1,by omega⟩
       rw [hq,Nat.testBit_succ] at this
       simp at this
     ·exact .inr ⟨e,lx48,hb,.inr h1⟩
    ·exact .inl h1
   ·exact .inr ⟨e',lx49 _ he',h1⟩
 rcases key _ _ h with h1 | ⟨e,he,h1⟩
 ·simp at h1
 ·exact ⟨e,by simpa using he,h1⟩
def Aec (ops:Array Oper) (acc:List Nat):Prop:=
 ∀ k i,k < acc.length→(acc.getD k 0).testBit i=true→∀ L,Gb ops L→OD ops L k→L i=true
theorem Lc (ops:Array Oper):∀ (l:List Oper) (acc:List Nat),ops.toList.drop acc.length=l→Aec ops acc→Aec ops (JJ l acc)
 | [],acc,_,h=>h
 | o::r,acc,hl,h=>by
  have hlt:acc.length < ops.toList.length:=by
   rcases DF acc.length ops.toList.length with h | h
   ·exact h
   ·rw [List.drop_eq_nil_of_le h] at hl; cases hl
  have ho:ops[acc.length]?=some o:=by
   rw [lx75 hlt] at hl
   injection hl with h1 h2
   rw [←h1]; simp at hlt; simp [hlt]
  refine Lc ops r (acc++[Sn acc o]) (by
   rw [lx5,List.length_singleton,←List.drop_drop,hl,List.drop_succ_cons,lx73]) ?_
  intro k i hk hb L hc hd
  rw [lx80,lx18] at hb
  by_cases hka:k < acc.length
  ·rw [if_pos hka,←lx80] at hb
   exact h k i hka hb L hc hd
  ·have hke:k=acc.length:=by rw [lx5,List.length_singleton] at hk; omega
   rw [if_neg hka,hke,K3] at hb
   simp only [lx45,lx10] at hb
   obtain ⟨e,he,hbd,h1⟩:=T5 acc o i hb
   have hon:=hd o (by rw [hke]; exact ho) e he hbd
   rcases h1 with h1 | h1
   ·rw [←h1]; exact hon
   ·by_cases hel:e.on < acc.length
    ·exact h e.on i hel h1 L hc (fun o' ho' e' he' hb'=>hc e.on o' ho' hon e' he' hb')
    ·rw [lx80,lx30 (by omega)] at h1
     simp at h1
theorem HN {ops:Array Oper} {i k:Nat} (h:before ops i k=true) {L:Nat→Bool} (hc:Gb ops L) (hd:OD ops L k):L i=true:=by
 have:=Lc ops ops.toList [] rfl (fun k i hk=>by simp at hk)
 unfold before Aeb at h
 by_cases hk:k < (JJ ops.toList []).length
 ·exact this k i hk h L hc hd
 ·rw [lx80,lx30 (by omega)] at h
  simp at h
theorem JK {ops:Array Oper} {i k:Nat} (h:before ops i k=true) {L:Nat→Bool} (hc:Gb ops L) (hk:L k=true):L i=true:=
 HN h hc (fun o ho e he hb=>hc k o ho hk e he hb)
def CX (ops:Array Oper) (k:Nat):Option Nat:=(ops[k]?).bind (·.dst)
variable {κ:Nat→Bool}
def Fb (o:Oper):Bool:=B9 o.op || isHeapOp o.op
def G3 (κ:Nat→Bool) (ops:Array Oper) (x y:Oper):Bool:=!(x.apart ops y) || (Ce κ x.op && Ce κ y.op && !Hm y)
def Bo (κ:Nat→Bool) (ops:Array Oper) (h:Nat):Bool:=match ops[h]? with | some o=>Ce κ o.op | none=>false
def gB (κ:Nat→Bool) (ops:Array Oper) (i k:Nat):Bool:=
 if Bo κ ops i=true then (List.range (i+1)).all fun h=>!Bo κ ops h || h == k || before ops h k else before ops i k
def Qj (κ:Nat→Bool) (ops:Array Oper) (k:Nat):Bool:=match ops[k]? with | some o=>Hm o && !gB κ ops k k | none=>false
def soleB (κ:Nat→Bool) (ops:Array Oper) (k:Nat):Bool:=match CX ops k with
 | none=>true
 | some d=>(List.range ops.size).all fun j=>j == k || (match ops[j]? with | some o=>(o.dst != some d) && (!(o.looksAt ops).contains d || gB κ ops k j) | none=>true)
def Fs (κ:Nat→Bool) (ops:Array Oper):Bool:=
 let ms:=Aeb ops
 ((List.range ops.size).all fun k=>match ops[k]? with
  | some ok=>(ok.after.all fun e=>!Region.binds .any e || decide (e.on < k)) && (List.range k).all fun i=>match ops[i]? with
   | some oi=>!(G3 κ ops oi ok) || (ms.getD k 0).testBit i
   | none=>true
  | none=>true) && (List.range ops.size).all fun k=>!Qj κ ops k || soleB κ ops k
theorem G4 {ops:Array Oper} (h:Fs κ ops=true) {i k:Nat} {oi ok:Oper} (hi:ops[i]?=some oi) (hk:ops[k]?=some ok) (hik:i < k) (hc:G3 κ ops oi ok=true):before ops i k=true:=by
 have h0:=(AH _ _ ▸ h:_∧_).1
 have h1:=lx28.1 h0 k (HG.2 (lx50.1 hk).1)
 simp only [hk,AH] at h1
 have h2:=lx28.1 h1.2 i (HG.2 hik)
 simp only [hi,hc,W0,Oi] at h2
 exact h2
theorem OE {ops:Array Oper} (h:Fs κ ops=true) {k:Nat} {ok:Oper} (hk:ops[k]?=some ok) {e:Edge} (he:e ∈ ok.after) (hb:Region.binds .any e=true):e.on < k:=by
 have h0:=(AH _ _ ▸ h:_∧_).1
 have h1:=lx28.1 h0 k (HG.2 (lx50.1 hk).1)
 simp only [hk,AH] at h1
 have:=Array.all_eq_true_iff_forall_mem.1 h1.1 e he
 simpa [hb] using this
theorem KB {ops:Array Oper} (h:Fs κ ops=true) {k:Nat} (hk:Qj κ ops k=true):soleB κ ops k=true:=by
 have h0:=(AH _ _ ▸ h:_∧_).2
 have hlt:k < ops.size:=by
  rcases DF k ops.size with h | h
  ·exact h
  ·unfold Qj at hk; rw [Array.getElem?_eq_none h] at hk; cases hk
 have h1:=lx28.1 h0 k (HG.2 hlt)
 rw [hk] at h1
 simpa using h1
theorem NL {ops:Array Oper} {i k h:Nat} (hi:Bo κ ops i=true) (hg:gB κ ops i k=true) (hh:Bo κ ops h=true) (hle:h≤i) (hne:h≠k):before ops h k=true:=by
 unfold gB at hg
 rw [if_pos hi] at hg
 have:=lx28.1 hg h (HG.2 (by omega))
 have hq:(h == k)=false:=by simpa using hne
 simpa [hh,hq] using this
theorem Aw1 {ops:Array Oper} {i k:Nat} (hi:Bo κ ops i=false):gB κ ops i k=before ops i k:=by unfold gB; rw [hi]; simp
theorem Mm {ops:Array Oper} {k j d:Nat} {o:Oper} (h:soleB κ ops k=true) (hd:CX ops k=some d) (hj:ops[j]?=some o) (hne:j≠k):o.dst≠some d∧(d ∈ o.looksAt ops→gB κ ops k j=true):=by
 unfold soleB at h
 rw [hd] at h
 have:=lx28.1 h j (HG.2 (lx50.1 hj).1)
 have hq:(j == k)=false:=by simpa using hne
 simp only [hj,hq,Oi,AH,bne_iff_ne,ne_eq,IX,J6,List.contains_eq_mem] at this
 refine ⟨this.1,fun hm=>?_⟩
 rcases this.2 with h | h
 ·simp [hm] at h
 ·exact h
section
variable {P:Program} {E:Env}
theorem Mn {ops:Array Oper} {s s':St} {o:Oper} (hp:AP E s o.op=true) (h:Ad P E ops s o=some s'):s'.H=s.H∧s'.cnt=s.cnt:=by
 unfold Ad at h
 split at h
 ·simp only [hp,lx6,lx24] at h
  obtain ⟨v,_,rfl⟩:=h
  exact Qx
 ·split at h
  ·simp only [hp,lx6,lx24] at h
   obtain ⟨v,_,rfl⟩:=h
   exact Qx
  ·cases h
   exact Qx
  ·cases h
theorem Nz {s:St} {o:Oper} (h:AP E s o.op=false):Fb o=true:=by
 unfold AP at h
 unfold Fb
 cases hc:B9 o.op with
 | true=>rfl
 | false=>rw [hc] at h; simpa using h
def hd (κ:Nat→Bool) (ops:Array Oper) (tr:Nat→St) (h:Nat):Prop:=∃ o,ops[h]?=some o∧Ce κ o.op=true
theorem Aed {ops:Array Oper} {tr:Nat→St} {h:Nat}:hd κ ops tr h↔Bo κ ops h=true:=by
 unfold hd Bo
 constructor
 ·rintro ⟨o,h1,h2⟩; rw [h1]; exact h2
 ·intro h1
  split at h1
  ·rename_i o ho; exact ⟨o,ho,h1⟩
  ·cases h1
structure Trace (P:Program) (E:Env) (κ:Nat→Bool) (ops:Array Oper) (tr:Nat→St):Prop where
 step:∀ i o,ops[i]?=some o→Ad P E ops (tr i) o=some (tr (i+1))
 keep:∀ i o,ops[i]?=some o→Ce κ o.op=false→(tr (i+1)).H=(tr i).H∧(tr (i+1)).cnt=(tr i).cnt
 past:∀ i o h,ops[i]?=some o→Ce κ o.op=false→h < i→hd κ ops tr h→gB κ ops h i=false→
  Ad P E ops ⟨(tr i).T,(tr h).H,(tr h).cnt⟩ o=some ⟨(tr (i+1)).T,(tr h).H,(tr h).cnt⟩
 fut:∀ i o h,ops[i]?=some o→Ce κ o.op=false→i < h→hd κ ops tr h→before ops i h=false→
  Ad P E ops ⟨(tr i).T,(tr (h+1)).H,(tr (h+1)).cnt⟩ o=some ⟨(tr (i+1)).T,(tr (h+1)).H,(tr (h+1)).cnt⟩
 born:∀ i o,ops[i]?=some o→Hm o=true→gB κ ops i i=false→norefs (CZ (tr (i+1)).H)=true
variable {ops:Array Oper} {tr:Nat→St}
theorem Trace.same (ht:Trace P E κ ops tr):∀ (d i:Nat),i+d≤ops.size→(∀ j,i≤j→j < i+d→Bo κ ops j=false)→(tr (i+d)).H=(tr i).H∧(tr (i+d)).cnt=(tr i).cnt
 | 0,i,_,_=>⟨rfl,rfl⟩
 | d+1,i,hl,h=>by
  obtain ⟨e1,e2⟩:=ht.same d i (by omega) (fun j h1 h2=>h j h1 (by omega))
  have hlt:i+d < ops.size:=Ah
  have ho:ops[i+d]?=some ops[i+d]:=by simp [hlt]
  have hp:Ce κ ops[i+d].op=false:=by
   have:=h (i+d) (by omega) (by omega)
   simpa [Bo,ho] using this
  obtain ⟨g1,g2⟩:=ht.keep _ _ ho hp
  exact ⟨by rw [show i+(d+1)=i+d+1 by omega,g1,e1],by rw [show i+(d+1)=i+d+1 by omega,g2,e2]⟩
def Kg (ops:Array Oper) (tr:Nat→St) (k:Nat):AV:=match CX ops k with | some d=>(tr (k+1)).T.getD d .un | none=>.un
def D9 (κ:Nat→Bool) (ops:Array Oper) (tr:Nat→St) (m k:Nat):AV:=if m≤k∧Bo κ ops k=true then .jk else Kg ops tr k
def C0 (ops:Array Oper) (T0:List AV) (val:Nat→AV):Nat→(Nat→Bool)→List AV
 | 0,_=>T0
 | k+1,L=>if L k=true then Dd (C0 ops T0 val k L) (CX ops k) (val k) else C0 ops T0 val k L
theorem Aee (T:List AV) (d:Option Nat) (v:AV):(Dd T d v).length=T.length:=by cases d <;> simp [Dd]
theorem QT (T:List AV) {d d':Option Nat} (v v':AV) (h:∀ x,d=some x→d'≠some x):Dd (Dd T d v) d' v'=Dd (Dd T d' v') d v:=by
 cases d with
 | none=>rfl
 | some x=>cases d' with
  | none=>rfl
  | some y=>
   have:x≠y:=fun e=>h x rfl (by rw [e])
   simp only [Dd]
   rw [List.set_comm _ _ this]
theorem Xg (T:List AV) (d:Option Nat) (v v':AV):Dd (Dd T d v) d v'=Dd T d v':=by
 cases d <;> simp [Dd]
variable {T0:List AV} {val val':Nat→AV}
theorem DH (L:Nat→Bool):∀ n,(C0 ops T0 val n L).length=T0.length
 | 0=>rfl
 | n+1=>by
  rw [C0]; split
  ·rw [Aee,DH L n]
  ·exact DH L n
theorem Je {L L':Nat→Bool}:∀ n,(∀ j,j < n→L j=L' j∧(L j=true→val j=val' j))→C0 ops T0 val n L=C0 ops T0 val' n L'
 | 0,_=>rfl
 | n+1,h=>by
  have ih:=Je (L:=L) (L':=L') n (fun j hj=>h j (by omega))
  obtain ⟨h1,h2⟩:=h n (by omega)
  rw [C0,C0,←h1,ih]
  split
  ·rename_i hq; rw [h2 hq]
  ·rfl
theorem OF {L L':Nat→Bool} (r:Nat):∀ n,(∀ j,j < n→CX ops j=some r→L j=L' j∧(L j=true→val j=val' j))→(C0 ops T0 val n L)[r]?=(C0 ops T0 val' n L')[r]?
 | 0,_=>rfl
 | n+1,h=>by
  have ih:=OF (L:=L) (L':=L') r n (fun j hj=>h j (by omega))
  have hl:(C0 ops T0 val n L).length=(C0 ops T0 val' n L').length:=by rw [DH,DH]
  have put:∀ (T:List AV) (v:AV),CX ops n≠some r→(Dd T (CX ops n) v)[r]?=T[r]?:=by
   intro T v hne
   cases hd:CX ops n with
   | none=>rfl
   | some d=>
    have:d≠r:=fun e=>hne (by rw [hd,e])
    simp only [Dd]
    rw [lx52 this]
  by_cases hd:CX ops n=some r
  ·obtain ⟨h1,h2⟩:=h n (by omega) hd
   rw [C0,C0,←h1]
   split
   ·rename_i hq
    rw [hd,h2 hq]
    simp only [Dd]
    rw [lx21,lx21]
    simp [hl]
   ·exact ih
  ·rw [C0,C0]
   split <;> split <;> simp only [put _ _ hd,ih]
theorem Ld {L:Nat→Bool} {i:Nat} (hL:∀ j,i≤j→L j=false):∀ d,C0 ops T0 val (i+d) L=C0 ops T0 val i L
 | 0=>rfl
 | d+1=>by
  rw [show i+(d+1)=(i+d)+1 by omega,C0,if_neg (by rw [hL (i+d) (by omega)]; decide),Ld hL d]
theorem Le {L:Nat→Bool} {i:Nat} (hi:L i=false):∀ n,i < n→(∀ j,i < j→j < n→L j=true→∀ d,CX ops i=some d→CX ops j≠some d)→
  C0 ops T0 val n (fun j=>L j || j == i)=Dd (C0 ops T0 val n L) (CX ops i) (val i)
 | 0,h,_=>by omega
 | n+1,h,hw=>by
  by_cases Fe:i=n
  ·subst Fe
   rw [C0,C0,if_pos (by simp),if_neg (by rw [hi]; decide)]
   congr 1
   refine Je _ fun j hj=>⟨?_,fun _=>rfl⟩
   have:(j == i)=false:=E6
   simp [this]
  ·have ih:=Le (L:=L) hi n (by omega) (fun j h1 h2=>hw j h1 (by omega))
   have hq:(n == i)=false:=E6
   rw [C0,C0,ih]
   simp only [hq,Oj]
   split
   ·rename_i hL
    exact QT _ _ _ (hw n (by omega) (by omega) hL)
   ·rfl
theorem T6 {L:Nat→Bool} {m:Nat} (hm:L m=true) (hv:∀ j,j≠m→val j=val' j):∀ n,m < n→(∀ j,m < j→j < n→L j=true→∀ d,CX ops m=some d→CX ops j≠some d)→
  C0 ops T0 val' n L=Dd (C0 ops T0 val n L) (CX ops m) (val' m)
 | 0,h,_=>by omega
 | n+1,h,hw=>by
  by_cases Fe:m=n
  ·subst Fe
   rw [C0,C0,if_pos hm,if_pos hm,Xg]
   congr 1
   exact Je _ fun j hj=>⟨rfl,fun _=>(hv j (by omega)).symm⟩
  ·have ih:=T6 (L:=L) hm hv n (by omega) (fun j h1 h2=>hw j h1 (by omega))
   rw [C0,C0,ih,hv n (fun e=>Fe e.symm)]
   split
   ·rename_i hL
    exact QT _ _ _ (hw n (by omega) (by omega) hL)
   ·rfl
theorem Trace.put (ht:Trace P E κ ops tr) {i:Nat} {o:Oper} (ho:ops[i]?=some o):(tr (i+1)).T=Dd (tr i).T (CX ops i) (Kg ops tr i):=by
 obtain ⟨v,h1,_⟩:=Gv (T:=(tr i).T) (T':=(tr i).T) (H:=(tr i).H) (c:=(tr i).cnt) (fun _ _=>rfl) (ht.step i _ ho)
 have hdst:CX ops i=o.dst:=by simp [CX,ho]
 unfold Kg
 rw [hdst,h1]
 cases hd:o.dst with
 | none=>rfl
 | some d=>
  simp only [Dd]
  by_cases hlt:d < (tr i).T.length
  ·rw [lx80,List.getElem?_set_self hlt,lx10]
  ·have hle:(tr i).T.length≤d:=Nat.le_of_not_lt hlt
   rw [lx72 hle,lx72 hle]
theorem Trace.slots (ht:Trace P E κ ops tr):∀ i,i≤ops.size→∀ L:Nat→Bool,(∀ j,j < i→L j=true)→C0 ops (tr 0).T (Kg ops tr) i L=(tr i).T
 | 0,_,_,_=>rfl
 | i+1,hi,L,hL=>by
  have ih:=ht.slots i (by omega) L (fun j hj=>hL j (by omega))
  rw [C0,if_pos (hL i (by omega)),ih,ht.put (show ops[i]?=some ops[i] by simp)]
theorem Trace.len (ht:Trace P E κ ops tr) {i:Nat} (hi:i≤ops.size):(tr i).T.length=(tr 0).T.length:=by
 rw [←ht.slots i hi (fun _=>true) (fun _ _=>rfl),DH]
def So (κ:Nat→Bool) (ops:Array Oper) (L:Nat→Bool) (m:Nat):Prop:=m=ops.size∨(Bo κ ops m=true∧L m=false)
theorem Ak9 (hB:Fs κ ops=true) {L:Nat→Bool} (hc:Gb ops L) {m:Nat} (hN:So κ ops L m) {k:Nat} (hk:Bo κ ops k=true) (hmk:m≤k) (hL:L k=true):Qj κ ops k=true:=by
 have hks:k < ops.size:=by
  rcases DF k ops.size with h | h
  ·exact h
  ·unfold Bo at hk; rw [Array.getElem?_eq_none h] at hk; cases hk
 rcases hN with hN | ⟨h1,h2⟩
 ·omega
 have hne:m≠k:=fun e=>by rw [e,hL] at h2; cases h2
 have hms:m < ops.size:=Ah
 have hom:ops[m]?=some ops[m]:=Br
 have hok:ops[k]?=some ops[k]:=Br
 have hpm:Ce κ ops[m].op=true:=by simpa [Bo,hom] using h1
 have hpk:Ce κ ops[k].op=true:=by simpa [Bo,hok] using hk
 have nb:before ops m k=false:=by
  cases hq:before ops m k with
  | false=>rfl
  | true=>rw [JK hq hc hL] at h2; cases h2
 have hl:Hm ops[k]=true:=by
  cases hq:Hm ops[k] with
  | true=>rfl
  | false=>
   have:=G4 hB hom hok (by omega) (by unfold G3; rw [hpm,hpk,hq]; simp)
   rw [nb] at this; cases this
 unfold Qj
 rw [hok]
 simp only [hl,Kw,J6]
 cases hq:gB κ ops k k with
 | false=>rfl
 | true=>
  have:=NL hk hq h1 hmk hne
  rw [nb] at this; cases this
theorem Trace.looks (hB:Fs κ ops=true) (ht:Trace P E κ ops tr) {L:Nat→Bool} (hc:Gb ops L) {i:Nat} {o:Oper} (ho:ops[i]?=some o) (hi:L i=false) (hd':OD ops L i)
  {m:Nat} (hN:So κ ops L m):∀ t ∈ o.looksAt ops,(tr i).T.getD t .un=(C0 ops (tr 0).T (D9 κ ops tr m) ops.size L).getD t .un:=by
 have Fe:i < ops.size:=(lx50.1 ho).1
 intro t htl
 have e1:(C0 ops (tr 0).T (Kg ops tr) ops.size (fun j=>decide (j < i)))[t]?=(tr i).T[t]?:=by
  have:=Ld (ops:=ops) (T0:=(tr 0).T) (val:=Kg ops tr) (L:=fun j=>decide (j < i)) (i:=i) (fun j hj=>by simp; omega) (ops.size - i)
  rw [show i+(ops.size - i)=ops.size by omega] at this
  rw [this,ht.slots i (by omega) _ (fun j hj=>by simpa using hj)]
 have e2:=OF (ops:=ops) (T0:=(tr 0).T) (val:=Kg ops tr) (val':=D9 κ ops tr m) (L:=fun j=>decide (j < i)) (L':=L) t ops.size (by
  intro j hj hdj
  have hoj:ops[j]?=some ops[j]:=by simp [hj]
  have hdj':ops[j].dst=some t:=by simpa [CX,hoj] using hdj
  rcases Nat.lt_trichotomy j i with hji | hji | hji
  ·have hb:before ops j i=true:=G4 hB hoj ho hji (by
    unfold G3 Oper.apart
    simp [hdj',htl])
   have hLj:=HN hb hc hd'
   refine ⟨by rw [hLj]; simpa using hji,fun _=>?_⟩
   unfold D9
   split
   ·exfalso
    rename_i hh
    have hmay:=Ak9 hB hc hN hh.2 hh.1 hLj
    have hsole:=KB hB hmay
    have hg:=(Mm hsole hdj ho (by omega)).2 htl
    rcases hN with hN | ⟨h1,h2⟩
    ·omega
    ·have hmj:m≠j:=fun e=>by rw [e,hLj] at h2; cases h2
     have:=HN (NL hh.2 hg h1 hh.1 (by omega)) hc hd'
     rw [h2] at this; cases this
   ·rfl
  ·subst hji; rw [hi]; simp
  ·have:before ops i j=true:=G4 hB ho hoj hji (by
    unfold G3 Oper.apart
    cases o.dst <;> simp [hdj',htl])
   have hLj:L j=false:=by
    cases hq:L j with
    | false=>rfl
    | true=>rw [JK this hc hq] at hi; cases hi
   rw [hLj]
   have hq:decide (j < i)=false:=E6
   simp [hq])
 rw [lx80,lx80,←e1,e2]
theorem Aef (hB:Fs κ ops=true) {L:Nat→Bool} (hc:Gb ops L) {i:Nat} (hi:L i=false):∀ j,i < j→j < ops.size→L j=true→∀ d,CX ops i=some d→CX ops j≠some d:=by
 intro j hij hj hL d hd hdj
 have hoj:ops[j]?=some ops[j]:=Br
 have hoi:ops[i]?=some (ops[i]'(by omega)):=Br
 have hdj':ops[j].dst=some d:=by simpa [CX,hoj] using hdj
 have hdi':(ops[i]'(by omega)).dst=some d:=by simpa [CX,hoi] using hd
 have:before ops i j=true:=G4 hB hoi hoj hij (by
  unfold G3 Oper.apart
  simp [hdi',hdj'])
 rw [JK this hc hL] at hi; cases hi
theorem Trace.pureAt (ht:Trace P E κ ops tr) {L:Nat→Bool} (hc:Gb ops L) {i:Nat} {o:Oper} (ho:ops[i]?=some o) (hi:L i=false) (hd':OD ops L i) (hp:Ce κ o.op=false)
  {m:Nat} (hm:m≤ops.size) (hlo:∀ h,h < m→Bo κ ops h=true→L h=true) (hN:So κ ops L m):
  Ad P E ops ⟨(tr i).T,(tr m).H,(tr m).cnt⟩ o=some ⟨(tr (i+1)).T,(tr m).H,(tr m).cnt⟩:=by
 have Fe:i < ops.size:=(lx50.1 ho).1
 have lex:Ad P E ops ⟨(tr i).T,(tr i).H,(tr i).cnt⟩ o=some ⟨(tr (i+1)).T,(tr i).H,(tr i).cnt⟩:=by
  have h0:=ht.step i o ho
  obtain ⟨g1,g2⟩:=ht.keep i o ho hp
  rw [h0,←g1,←g2]
 rcases DF i m with him | him
 ·
  have up:∀ d,i+1+d≤m→Ad P E ops ⟨(tr i).T,(tr (i+1+d)).H,(tr (i+1+d)).cnt⟩ o=some ⟨(tr (i+1)).T,(tr (i+1+d)).H,(tr (i+1+d)).cnt⟩:=by
   intro d
   induction d with
   | zero=>
    intro _
    obtain ⟨g1,g2⟩:=ht.keep i o ho hp
    rw [IW,g1,g2]; exact lex
   | succ d ih=>
    intro hle
    cases hh:Bo κ ops (i+1+d) with
    | true=>
     have hLh:L (i+1+d)=true:=hlo _ (by omega) hh
     have hb:before ops i (i+1+d)=false:=by
      cases hq:before ops i (i+1+d) with
      | false=>rfl
      | true=>rw [JK hq hc hLh] at hi; cases hi
     have:=ht.fut i o (i+1+d) ho hp (by omega) (Aed.2 hh) hb
     rw [show i+1+(d+1)=i+1+d+1 by omega]
     exact this
    | false=>
     obtain ⟨g1,g2⟩:=ht.same 1 (i+1+d) (by omega) (fun j h1 h2=>by rwa [show j=i+1+d by omega])
     rw [show i+1+(d+1)=i+1+d+1 by omega,g1,g2]
     exact ih (by omega)
  have:=up (m - (i+1)) (by omega)
  rwa [show i+1+(m - (i+1))=m by omega] at this
 ·
  have down:∀ d,d≤i - m→Ad P E ops ⟨(tr i).T,(tr (i - d)).H,(tr (i - d)).cnt⟩ o=some ⟨(tr (i+1)).T,(tr (i - d)).H,(tr (i - d)).cnt⟩:=by
   intro d
   induction d with
   | zero=>intro _; exact lex
   | succ d ih=>
    intro hle
    cases hh:Bo κ ops (i - (d+1)) with
    | true=>
     have hb:gB κ ops (i - (d+1)) i=false:=by
      cases hq:gB κ ops (i - (d+1)) i with
      | false=>rfl
      | true=>
       rcases hN with hN | ⟨h1,h2⟩
       ·omega
       ·have:=HN (NL hh hq h1 (by omega) (by omega)) hc hd'
        rw [h2] at this; cases this
     exact ht.past i o (i - (d+1)) ho hp (by omega) (Aed.2 hh) hb
    | false=>
     obtain ⟨g1,g2⟩:=ht.same 1 (i - (d+1)) (by omega) (fun j h1 h2=>by rwa [show j=i - (d+1) by omega])
     rw [show i - (d+1)+1=i - d by omega] at g1 g2
     rw [←g1,←g2]
     exact ih (by omega)
  have:=down (i - m) (Ax _)
  rwa [show i - (i - m)=m by omega] at this
end
def MZ (listed:Array Bool) (n:Nat):Nat:=((List.range n).filter fun i=>!listed.getD i true).length
theorem QU {α:Type} {p q:α→Bool}:∀ (l:List α),(∀ x ∈ l,q x=true→p x=true)→(∃ x ∈ l,p x=true∧q x=false)→(l.filter q).length < (l.filter p).length
 | [],_,h=>by obtain ⟨x,hx,_⟩:=h; cases hx
 | y::l,h1,h2=>by
  have hle:∀ l:List α,(∀ x ∈ l,q x=true→p x=true)→(l.filter q).length≤(l.filter p).length:=by
   intro l
   induction l with
   | nil=>intro _; exact Ax _
   | cons z l ih=>
    intro h
    have:=ih (fun x hx=>h x (lx49 _ hx))
    have hz:=h z lx48
    simp only [List.filter_cons]
    cases hq:q z <;> cases hp:p z <;> simp <;> first | omega | (rw [hz hq] at hp; cases hp)
  have hl:=hle l (fun x hx=>h1 x (lx49 _ hx))
  have hy:=h1 y lx48
  by_cases hex:∃ x ∈ l,p x=true∧q x=false
  ·have ih:=QU l (fun x hx=>h1 x (lx49 _ hx)) hex
   simp only [List.filter_cons]
   cases hq:q y <;> cases hp:p y <;> simp <;> first | omega | (rw [hy hq] at hp; cases hp)
  ·obtain ⟨x,hx,hpx,hqx⟩:=h2
   rcases lx59.1 hx with rfl | hx
   ·simp only [List.filter_cons,hpx,hqx]
    simp; omega
   ·exact absurd ⟨x,hx,hpx,hqx⟩ hex
section
variable {P:Program} {E:Env} {w:World} {X:Nat→Prop} {loc:Nat→Option (Nat × Nat)} {a:Act} {ops:Array Oper} {tr:Nat→St}
theorem Eo {listed:Array Bool} {i:Nat} (h:i ∈ Region.ready .any ops listed):∃ o,ops[i]?=some o∧listed.getD i true=false∧∀ e ∈ o.after,Region.binds .any e=true→listed.getD e.on false=true:=by
 unfold Region.ready at h
 simp only [List.mem_filter,HG,AH,J6] at h
 obtain ⟨h1,h2,h3⟩:=h
 have ho:ops[i]?=some ops[i]:=by simp [h1]
 rw [ho] at h3
 simp only [lx34,lx10] at h3
 refine ⟨_,ho,h2,fun e he hb=>?_⟩
 have:=Array.all_eq_true_iff_forall_mem.1 h3 e he
 simpa [hb] using this
theorem OG {listed:Array Bool} {i:Nat} {o:Oper} (ho:ops[i]?=some o) (h1:listed.getD i true=false) (h2:∀ e ∈ o.after,Region.binds .any e=true→listed.getD e.on false=true):i ∈ Region.ready .any ops listed:=by
 unfold Region.ready
 simp only [List.mem_filter,HG,AH,J6]
 refine ⟨(lx50.1 ho).1,h1,?_⟩
 rw [ho]
 simp only [lx34,lx10]
 refine Array.all_eq_true_iff_forall_mem.2 fun e he=>?_
 cases hb:Region.binds .any e with
 | false=>rfl
 | true=>simp [h2 e he hb]
theorem Gw {listed:Array Bool} {i:Nat} (h:i < listed.size):listed.getD i true=listed.getD i false:=by simp [h]
theorem NM {T T':List AV} {d:Option Nat} {v v':AV} (h:Dd T d v=Dd T d v') (hl:T'.length=T.length):Dd T' d v=Dd T' d v':=by
 cases d with
 | none=>rfl
 | some d=>
  simp only [Dd] at h ⊢
  by_cases hlt:d < T.length
  ·have h1:=congrArg (fun l=>l[d]?) h
   simp only [List.getElem?_set_self hlt,lx16] at h1
   rw [h1]
  ·rw [lx72 (by omega),lx72 (by omega)]
def Pend (κ:Nat→Bool) (ops:Array Oper) (tr:Nat→St) (w0 w1:World) (X1:Nat→Prop) (hc1:HC) (a1:Act) (k b:Nat):Prop:=
 w0.heap.size≤b∧Qj κ ops k=true∧∃ o rv ty esz els tmp,ops[k]?=some o∧
  tr (k+1)=⟨Dd (tr k).T o.dst (T3 rv (tr k).H.length (tr k).cnt),(tr k).H++[⟨true,(tr k).cnt,ty,esz,els,tmp⟩],(tr k).cnt+1⟩∧
  Born w1 X1 hc1 b ty esz els∧∀ d,o.dst=some d→d < (tr 0).T.length→∃ v,a1.tmps.toList[d]?=some v∧RvV w1 rv ty esz els.length b v
theorem Pend.mono {w0 w1 w2:World} {X1 X2:Nat→Prop} {hc1 hc2:HC} {a1:Act} {k b i:Nat} {oi:Oper} {c:Value} (h:Pend κ ops tr w0 w1 X1 hc1 a1 k b) (hB:Fs κ ops=true) (hoi:ops[i]?=some oi) (hne:i≠k)
  (ev:Evo w1 X1 hc1 w2 X2 hc2) (hr:HR w1 X1 hc1):Pend κ ops tr w0 w2 X2 hc2 (a1.put oi.dst c) k b:=by
 obtain ⟨h1,h2,o,rv,ty,esz,els,tmp,h3,h4,h5,h6⟩:=h
 refine ⟨h1,h2,o,rv,ty,esz,els,tmp,h3,h4,h5.mono ev hr,fun d hd hlt=>?_⟩
 obtain ⟨v,g1,g2⟩:=h6 d hd hlt
 have hs:=(Mm (KB hB h2) (show CX ops k=some d by simp [CX,h3,hd]) hoi hne).1
 refine ⟨v,?_,g2.mono ev⟩
 cases hq:oi.dst with
 | none=>exact g1
 | some x=>
  have hx:x≠d:=fun e=>hs (by rw [hq,e])
  simp only [Act.put,Array.toList_setIfInBounds]
  rw [lx52 hx]
  exact g1
structure DI (w:World) (X:Nat→Prop) (loc:Nat→Option (Nat × Nat)) (κ:Nat→Bool) (ops:Array Oper) (tr:Nat→St) (L:Nat→Bool) (m:Nat) (a1:Act) (w1:World) (X1:Nat→Prop) (loc1:Nat→Option (Nat × Nat)):Prop where
 cl:Gb ops L
 ml:m≤ops.size
 lo:∀ h,h < m→Bo κ ops h=true→L h=true
 sr:SR w1 X1 loc1 ⟨C0 ops (tr 0).T (D9 κ ops tr m) ops.size L,(tr m).H,(tr m).cnt⟩ a1
 ev:Evo w X ((tr 0).hc loc) w1 X1 ⟨loc1,(tr m).H,(tr m).cnt⟩
 pe:∃ bf:Nat→Nat,(∀ k,Bo κ ops k=true→m≤k→L k=true→Pend κ ops tr w w1 X1 ⟨loc1,(tr m).H,(tr m).cnt⟩ a1 k (bf k))∧
  ∀ k k',Bo κ ops k=true→m≤k→L k=true→Bo κ ops k'=true→m≤k'→L k'=true→bf k=bf k'→k=k'
theorem DI.norm (hB:Fs κ ops=true) (ht:Trace P E κ ops tr) {L:Nat→Bool} {a1:Act} {w1:World} {X1:Nat→Prop}:∀ (n:Nat) {m:Nat} {loc1:Nat→Option (Nat × Nat)},ops.size - m≤n→DI w X loc κ ops tr L m a1 w1 X1 loc1→
  ∃ m' loc',DI w X loc κ ops tr L m' a1 w1 X1 loc'∧So κ ops L m'
 | 0,m,loc1,hn,h=>⟨m,loc1,h,.inl (by have:=h.ml; omega)⟩
 | n+1,m,loc1,hn,h=>by
  by_cases hm:m=ops.size
  ·exact ⟨m,loc1,h,.inl hm⟩
  have hml:=h.ml
  have hlt:m < ops.size:=Ah
  cases hh:Bo κ ops m with
  | false=>
   obtain ⟨g1,g2⟩:=ht.same 1 m (by omega) (fun j h1 h2=>by rwa [show j=m by omega])
   have Fu:D9 κ ops tr (m+1)=D9 κ ops tr m:=by
    funext j
    unfold D9
    by_cases hj:j=m
    ·subst hj; simp [hh]
    ·exact Adt
   refine DI.norm hB ht n (m:=m+1) (loc1:=loc1) (by omega) ⟨h.cl,by omega,?_,?_,?_,?_⟩
   ·intro k hk hp
    by_cases hkm:k=m
    ·rw [hkm,hh] at hp; cases hp
    ·exact h.lo k (by omega) hp
   ·rw [Fu,g1,g2]; exact h.sr
   ·rw [g1,g2]; exact h.ev
   ·rw [g1,g2]
    obtain ⟨bf,p1,p2⟩:=h.pe
    exact ⟨bf,fun k a b c=>p1 k a (by omega) c,fun k k' a b c a' b' c'=>p2 k k' a (by omega) c a' (by omega) c'⟩
  | true=>
   cases hL:L m with
   | false=>exact ⟨m,loc1,h,.inr ⟨hh,hL⟩⟩
   | true=>
    obtain ⟨bf,p1,p2⟩:=h.pe
    obtain ⟨q1,q2,o,rv,ty,esz,els,tmp,ho,htr,hb,hv⟩:=p1 m hh (Ax _) hL
    have hdo:CX ops m=o.dst:=by simp [CX,ho]
    have hreg:=Ar4 (dst:=o.dst) (rv:=rv) (tmp:=tmp) h.sr hb (fun d hd hl=>hv d hd (by rwa [DH] at hl))
    have hT:C0 ops (tr 0).T (D9 κ ops tr (m+1)) ops.size L=Dd (C0 ops (tr 0).T (D9 κ ops tr m) ops.size L) o.dst (T3 rv (tr m).H.length (tr m).cnt):=by
     rw [T6 (val:=D9 κ ops tr m) (val':=D9 κ ops tr (m+1)) hL (fun j hj=>?_) ops.size hlt (fun j h1 h2 h3 d hd=>?_)]
     ·have hvm:D9 κ ops tr (m+1) m=Kg ops tr m:=by unfold D9; rw [if_neg (by omega)]
      rw [hvm,hdo]
      refine NM (T:=(tr m).T) ?_ (by rw [DH]; exact (ht.len h.ml).symm)
      rw [←hdo,←ht.put ho,htr,hdo]
     ·unfold D9
      exact Adt
     ·have hoj:ops[j]?=some ops[j]:=by simp
      have:=(Mm (KB hB q2) hd hoj (by omega)).1
      simpa [CX,hoj] using this
    refine DI.norm hB ht n (m:=m+1) (loc1:=fun k=>if k=(tr m).H.length then some (bf m,0) else loc1 k) (by omega) ⟨h.cl,by omega,?_,?_,?_,bf,?_,?_⟩
    ·intro k hk hp
     by_cases hkm:k=m
     ·rw [hkm]; exact hL
     ·exact h.lo k (by omega) hp
    ·rw [hT,htr]; exact hreg
    ·rw [htr]; exact Ak6 _ rfl h.ev q1
    ·intro k k1 k2 k3
     obtain ⟨r1,r2,o',rv',ty',esz',els',tmp',r3,r4,r5,r6⟩:=p1 k k1 (by omega) k3
     refine ⟨r1,r2,o',rv',ty',esz',els',tmp',r3,r4,?_,r6⟩
     rw [htr]
     refine Aba _ r5 fun e=>?_
     have:=p2 k m k1 (by omega) k3 hh (Ax _) hL e
     omega
    ·exact fun k k' a b c a' b' c'=>p2 k k' a (by omega) c a' (by omega) c'
theorem T7 (hE:EnvOk P E) (hB:Fs κ ops=true) (ht:Trace P E κ ops tr) {Q:Exit→Act→World→Prop}
  (hQ:∀ a' w' X' loc',SR w' X' loc' (tr ops.size) a'→Evo w X ((tr 0).hc loc) w' X' ((tr ops.size).hc loc')→Q .normal a' w'):
  ∀ (fuel:Nat) (listed:Array Bool) (a1:Act) (w1:World) (X1:Nat→Prop) (loc1:Nat→Option (Nat × Nat)) (m:Nat),listed.size=ops.size→
   DI w X loc κ ops tr (fun j=>listed.getD j false) m a1 w1 X1 loc1→MZ listed ops.size≤fuel→
   wpAny P .any ops Q fuel listed a1 w1:=by
 intro fuel
 have done:∀ (listed:Array Bool) (a1:Act) (w1:World) (X1:Nat→Prop) (loc1:Nat→Option (Nat × Nat)) (m:Nat),listed.size=ops.size→DI w X loc κ ops tr (fun j=>listed.getD j false) m a1 w1 X1 loc1→
   Region.ready .any ops listed=[]→Q .normal a1 w1:=by
  intro listed a1 w1 X1 loc1 m hsz hd hnil
  have hall:∀ k,k < ops.size→listed.getD k false=true:=by
   intro k
   induction k using Nat.strongRecOn with
   | _ k ih=>
    intro hk
    cases hq:listed.getD k false with
    | true=>rfl
    | false=>
     have ho:ops[k]?=some ops[k]:=by simp [hk]
     have:=OG (listed:=listed) ho (by rw [Gw (by omega)]; exact hq) (fun e he hb=>ih e.on (OE hB ho he hb) (by have:=OE hB ho he hb; omega))
     rw [hnil] at this; cases this
  obtain ⟨m',loc',hd',hN⟩:=hd.norm hB ht (ops.size - m) (Ax _)
  have hm':m'=ops.size:=by
   rcases hN with hN | ⟨h1,h2⟩
   ·exact hN
   ·have hlt:m' < ops.size:=by
     rcases DF m' ops.size with h | h
     ·exact h
     ·unfold Bo at h1; rw [Array.getElem?_eq_none h] at h1; cases h1
    have h3:=hall m' hlt
    simp only at h2
    rw [h3] at h2; cases h2
  subst hm'
  have hT:C0 ops (tr 0).T (D9 κ ops tr ops.size) ops.size (fun j=>listed.getD j false)=(tr ops.size).T:=by
   rw [←ht.slots ops.size (Ax _) (fun j=>listed.getD j false) hall]
   refine Je _ fun j hj=>⟨rfl,fun _=>?_⟩
   unfold D9; rw [if_neg (by omega)]
  have hs:=hd'.sr
  rw [hT] at hs
  exact hQ a1 w1 X1 loc' hs hd'.ev
 induction fuel with
 | zero=>
  intro listed a1 w1 X1 loc1 m hsz hd hop
  have hnil:Region.ready .any ops listed=[]:=by
   cases hr:Region.ready .any ops listed with
   | nil=>rfl
   | cons i r=>
    exfalso
    obtain ⟨o,ho,h1,h2⟩:=Eo (ops:=ops) (listed:=listed) (i:=i) (by rw [hr]; exact lx48)
    have:i ∈ (List.range ops.size).filter fun i=>!listed.getD i true:=by
     simp only [List.mem_filter,HG]
     exact ⟨(lx50.1 ho).1,by rw [h1]; rfl⟩
    have:=List.length_pos_of_mem this
    unfold MZ at hop
    omega
  exact ⟨hnil,done listed a1 w1 X1 loc1 m hsz hd hnil⟩
 | succ fuel ih=>
  intro listed a1 w1 X1 loc0 m0 hsz hd0 hop
  refine ⟨done listed a1 w1 X1 loc0 m0 hsz hd0,fun i hi=>?_⟩
  obtain ⟨m,loc1,hd,hN⟩:=hd0.norm hB ht (ops.size - m0) (Ax _)
  clear hd0
  obtain ⟨o,ho,h1,h2⟩:=Eo hi
  have Fe:i < ops.size:=(lx50.1 ho).1
  have hdo:CX ops i=o.dst:=by simp [CX,ho]
  have hif:listed.getD i false=false:=by rw [←Gw (by omega)]; exact h1
  have hdeps:OD ops (fun j=>listed.getD j false) i:=fun o' ho' e he hb=>by rw [ho] at ho'; cases ho'; exact h2 e he hb
  have hset:∀ j,(listed.setIfInBounds i true).getD j false=(listed.getD j false || j == i):=by
   intro j
   by_cases hji:j=i
   ·subst hji
    have:j < listed.size:=Ah
    simp [this]
   ·have:(j == i)=false:=by simpa using hji
    rw [this,Oj]
    have hne:i≠j:=fun e=>hji e.symm
    simp [Array.getD_eq_getD_getElem?,Array.getElem?_setIfInBounds_ne hne]
  have hfun:(fun j=>(listed.setIfInBounds i true).getD j false)=fun j=>listed.getD j false || j == i:=funext hset
  have hcl':Gb ops (fun j=>listed.getD j false || j == i):=by
   intro j oj hoj hLj e he hb
   simp only [IX,lx85] at hLj ⊢
   rcases hLj with hLj | hLj
   ·exact .inl (hd.cl j oj hoj hLj e he hb)
   ·subst hLj
    rw [ho] at hoj; cases hoj
    exact .inl (h2 e he hb)
  have hop':MZ (listed.setIfInBounds i true) ops.size≤fuel:=by
   have:MZ (listed.setIfInBounds i true) ops.size < MZ listed ops.size:=by
    unfold MZ
    refine QU _ (fun j hj hq=>?_) ⟨i,HG.2 Fe,by rw [h1]; rfl,?_⟩
    ·have hj':j < ops.size:=HG.1 hj
     rw [Gw (by simp; omega),hset,Bool.not_or,AH] at hq
     rw [Gw (by omega)]
     exact hq.1
    ·rw [Gw (by simp; omega),hset]; simp
   omega
  have hK:∀ a' w' X' loc' m',DI w X loc κ ops tr (fun j=>listed.getD j false || j == i) m' a' w' X' loc'→wpAny P .any ops Q fuel (listed.setIfInBounds i true) a' w':=by
   intro a' w' X' loc' m' hd'
   exact ih (listed.setIfInBounds i true) a' w' X' loc' m' (by simp [hsz]) (by rw [hfun]; exact hd') hop'
  have hlook:=ht.looks hB hd.cl ho hif hdeps hN
  have hfree:=Aef (ops:=ops) hB hd.cl hif
  obtain ⟨bf,p1,p2⟩:=hd.pe
  have go:∀ (s':St) (m':Nat),Ad P E ops ⟨C0 ops (tr 0).T (D9 κ ops tr m) ops.size (fun j=>listed.getD j false),(tr m).H,(tr m).cnt⟩ o=some s'→
    s'=⟨C0 ops (tr 0).T (D9 κ ops tr m') ops.size (fun j=>listed.getD j false || j == i),(tr m').H,(tr m').cnt⟩→m'≤ops.size→(∀ h,h < m'→Bo κ ops h=true→(listed.getD h false || h == i)=true)→
    (Bo κ ops i=true→i < m')→m≤m'→wpOp P ops Q i (wpAny P .any ops Q fuel (listed.setIfInBounds i true)) a1 w1:=by
   intro s' m' hop hs' hm' hlo' him hmm
   have hst:=QR hE hd.sr hop
   have:=hst (wpAny P .any ops Q fuel (listed.setIfInBounds i true)) Q (fun c w' X' loc' g1 g2=>by
    subst hs'
    refine hK _ w' X' loc' m' ⟨hcl',hm',hlo',g1,hd.ev.trans g2,bf,?_,?_⟩
    ·intro k hk hmk hLk
     have hki:i≠k:=fun e=>by subst e; have:=him hk; omega
     have hq:(k == i)=false:=by simp; exact fun e=>hki e.symm
     simp only [hq,Oj] at hLk
     exact (p1 k hk (by omega) hLk).mono hB ho hki g2 hd.sr.hr
    ·intro k k' c1 c2 c3 d1 d2 d3
     have hki:i≠k:=fun e=>by subst e; have:=him c1; omega
     have hki':i≠k':=fun e=>by subst e; have:=him d1; omega
     have hq:(k == i)=false:=by simp; exact fun e=>hki e.symm
     have hq':(k' == i)=false:=by simp; exact fun e=>hki' e.symm
     simp only [hq,hq',Oj] at c3 d3
     exact p2 k k' c1 (by omega) c3 d1 (by omega) d3)
   unfold wpOp
   rw [ho]
   simp only
   split
   ·rename_i hw
    rw [if_pos hw] at this
    exact .inl this
   ·rename_i hw
    rw [if_neg hw] at this
    exact this
  cases hp:Ce κ o.op with
  | false=>
   have hh:Bo κ ops i=false:=by unfold Bo; rw [ho]; exact hp
   have good:=ht.pureAt hd.cl ho hif hdeps hp hd.ml hd.lo hN
   obtain ⟨v,g1,g2⟩:=Gv hlook good
   injection g1 with g1 _
   refine go _ m g2 ?_ hd.ml (fun h hh hp=>by rw [hd.lo h hh hp]; rfl) (fun h=>by rw [hh] at h; cases h) (Ax _)
   rw [Le hif ops.size Fe hfree]
   have hvm:D9 κ ops tr m i=Kg ops tr i:=by unfold D9; rw [if_neg (by rw [hh]; simp)]
   rw [hvm,hdo]
   congr 1
   refine NM (T:=(tr i).T) ?_ (by rw [DH]; exact (ht.len (by omega)).symm)
   rw [←g1,←hdo,←ht.put ho]
  | true=>
   have hh:Bo κ ops i=true:=by unfold Bo; rw [ho]; exact hp
   have hmi:m≤i:=by
    rcases DF i m with h | h
    ·have:=hd.lo i h hh
     rw [hif] at this; cases this
    ·exact h
   cases hmay:Qj κ ops i with
   | false=>
    have hbelow:∀ h,h < i→Bo κ ops h=true→listed.getD h false=true:=by
     intro h hlt hhh
     have hoh:ops[h]?=some (ops[h]'(by omega)):=Br
     have hph:Ce κ (ops[h]'(by omega)).op=true:=by simpa [Bo,hoh] using hhh
     have hb:before ops h i=true:=by
      cases hl:Hm o with
      | false=>exact G4 hB hoh ho hlt (by unfold G3; rw [hph,hp,hl]; simp)
      | true=>
       have:gB κ ops i i=true:=by
        unfold Qj at hmay
        rw [ho] at hmay
        simpa [hl] using hmay
       exact NL hh this hhh (by omega) (by omega)
     exact HN hb hd.cl hdeps
    have hmi':m=i:=by
     rcases hN with hN | ⟨h1,h2⟩
     ·omega
     ·rcases DF m i with h | h
      ·have:=hbelow m h h1
       simp only at h2
       rw [this] at h2; cases h2
      ·omega
    subst hmi'
    obtain ⟨v,g1,g2⟩:=Gv (T:=(tr m).T) (H:=(tr m).H) (c:=(tr m).cnt) hlook (ht.step m o ho)
    refine go _ (m+1) g2 ?_ (by omega) (fun h hlt hp=>?_) (fun _=>by omega) (by omega)
    ·rw [Le hif ops.size Fe hfree]
     have hvm:D9 κ ops tr (m+1) m=Kg ops tr m:=by unfold D9; rw [if_neg (by omega)]
     rw [hvm,hdo,Je (val:=D9 κ ops tr (m+1)) (val':=D9 κ ops tr m) (L':=fun j=>listed.getD j false) ops.size (fun j hj=>⟨rfl,fun hLj=>?_⟩)]
     ·congr 1
      refine NM (T:=(tr m).T) ?_ (by rw [DH]; exact (ht.len (by omega)).symm)
      have e1:=congrArg St.T g1
      simp only at e1
      rw [←e1,←hdo,←ht.put ho]
     ·have hjm:j≠m:=fun e=>by subst e; rw [hif] at hLj; cases hLj
      unfold D9
      exact Adt
    ·by_cases hhm:h=m
     ·subst hhm; simp
     ·rw [hbelow h (by omega) hp]; rfl
   | true=>
    have hl:Hm o=true:=by
     unfold Qj at hmay
     rw [ho] at hmay
     simp only [AH] at hmay
     exact hmay.1
    have hg:gB κ ops i i=false:=by
     unfold Qj at hmay
     rw [ho] at hmay
     simpa [hl] using hmay
    obtain ⟨_,rv,ty,esz,els,tmp,e1,e2,_⟩:=KA (T:=(tr i).T) (H:=(tr i).H) (c:=(tr i).cnt) hl (ht.step i o ho)
    have hnr:norefs els=true:=by
     have:=ht.born i o ho hl hg
     rw [e1,Dg] at this
     exact this
    obtain ⟨v,g1,g2⟩:=Gv hlook (e2 (tr m).H (tr m).cnt)
    injection g1 with g1 _
    have hTv:=NM (T':=C0 ops (tr 0).T (D9 κ ops tr m) ops.size (fun j=>listed.getD j false)) g1 (by rw [DH]; exact (ht.len (by omega)).symm)
    rw [←hTv] at g2
    have hst:=(KA hl g2).1
    have hlo:Ii o.op=true:=by
     simp only [Hm,AH] at hl; exact hl.2
    obtain ⟨n,c',w',r1,r2,r3,r4,r5,r6⟩:=Aea hd.sr (QP hlo hd.sr hst) hnr
    have hfin:wpAny P .any ops Q fuel (listed.setIfInBounds i true) (a1.put o.dst c') w':=by
     refine hK _ w' _ loc1 m ⟨hcl',hd.ml,fun h hlt hp=>by rw [hd.lo h hlt hp]; rfl,?_,hd.ev.trans r4,fun k=>if k=i then w1.heap.size else bf k,?_,?_⟩
     ·rw [Le hif ops.size Fe hfree]
      have hvm:D9 κ ops tr m i=.jk:=by unfold D9; rw [if_pos ⟨hmi,hh⟩]
      rw [hvm,hdo]
      exact r3
     ·intro k hk hmk hLk
      by_cases hki:k=i
      ·subst hki
       simp only [lx6]
       refine ⟨hd.ev.size,hmay,o,rv,ty,esz,els,tmp,ho,e1,r5,fun d hdd hlt=>r6 d hdd (by rw [DH]; exact hlt)⟩
      ·have hq:(k == i)=false:=by simpa using hki
       simp only [hq,Oj] at hLk
       simp only [hki,lx7]
       exact (p1 k hk hmk hLk).mono hB ho (fun e=>hki e.symm) r4 hd.sr.hr
     ·intro k k' c1 c2 c3 d1 d2 d3 he
      by_cases hki:k=i <;> by_cases hki':k'=i
      ·rw [hki,hki']
      ·exfalso
       have hq:(k' == i)=false:=by simpa using hki'
       simp only [hq,Oj] at d3
       simp only [hki,hki',lx6,lx7] at he
       obtain ⟨_,_,_,_,_,_,_,_,_,_,hbn,_⟩:=p1 k' d1 d2 d3
       have:=hbn.lt
       omega
      ·exfalso
       have hq:(k == i)=false:=by simpa using hki
       simp only [hq,Oj] at c3
       simp only [hki,hki',lx6,lx7] at he
       obtain ⟨_,_,_,_,_,_,_,_,_,_,hbn,_⟩:=p1 k c1 c2 c3
       have:=hbn.lt
       omega
      ·have hq:(k == i)=false:=by simpa using hki
       have hq':(k' == i)=false:=by simpa using hki'
       simp only [hq,hq',Oj] at c3 d3
       simp only [hki,hki',lx7] at he
       exact p2 k k' c1 c2 c3 d1 d2 d3 he
    have hw:Region.wanted o (yielded ops a1.tmps)=true:=by
     simp only [Hm,AH,Option.isNone_iff_eq_none] at hl
     unfold Region.wanted; rw [hl.1]
    unfold wpOp
    rw [ho]
    simp only [hw,lx6]
    refine .inl ?_
    unfold Oper.wp
    rw [r1]
    rcases r2 with r2 | ⟨r2,r2'⟩
    ·rw [r2]; exact hfin
    ·rw [r2]; subst r2'; exact hfin
theorem NA (hE:EnvOk P E) (hm:P.follows .mixedOrders=true) {id:Nat} (hB:Fs κ ops=true) (ht:Trace P E κ ops tr) (hs:SR w X loc (tr 0) a) {Q:Exit→Act→World→Prop}
  (hQ:∀ a' w' X' loc',SR w' X' loc' (tr ops.size) a'→Evo w X ((tr 0).hc loc) w' X' ((tr ops.size).hc loc')→Q .normal a' w'):(Code.region id ops true).wp P Q a w:=by
 refine wp_region_any hm ?_
 have hb:Below w.heap.size w { w with drawn:=w.drawn+1 }:=⟨rfl,rfl,rfl,Ax _,fun _ _=>rfl⟩
 have hf:∀ j,(Array.replicate ops.size false).getD j false=false:=by
  intro j
  rcases DF j ops.size with h | h
  ·simp [h]
  ·simp [h]
 refine T7 (w:=w) (X:=X) (loc:=loc) hE hB ht hQ ops.size (Array.replicate ops.size false) a _ X loc 0 (by simp) ⟨?_,BX _,fun h hh=>by omega,?_,DW hb X _,fun _=>0,?_,?_⟩ ?_
 ·intro j oj hoj hLj
  have hLj':(Array.replicate ops.size false).getD j false=true:=hLj
  rw [hf] at hLj'; cases hLj'
 ·have e:C0 ops (tr 0).T (D9 κ ops tr 0) ops.size (fun j=>(Array.replicate ops.size false).getD j false)=(tr 0).T:=by
   have:=Ld (ops:=ops) (T0:=(tr 0).T) (val:=D9 κ ops tr 0) (L:=fun j=>(Array.replicate ops.size false).getD j false) (i:=0) (fun j _=>hf j) ops.size
   rw [BO] at this
   rw [this]; rfl
  rw [e]
  exact hs.below hb
 ·intro k _ _ hL
  rw [hf] at hL; cases hL
 ·intro k k' _ _ hL
  rw [hf] at hL; cases hL
 ·unfold MZ
  refine Og (lx86 _ _) ?_
  simp
end
def Gx:List Nat→Nat→Nat
 | [],_=>0
 | i::r,j=>if (i == j)=true then 0 else Gx r j+1
def Ar6 (π:List Nat) (af:Array Edge):Array Edge:=af.map fun e=>{ e with on:=Gx π e.on }
def Aw2 (π:List Nat):Option (Nat × Bool)→Option (Nat × Bool)
 | none=>none
 | some g=>some (Gx π g.1,g.2)
def Sp (π:List Nat) (o:Oper):Oper:=⟨o.dst,o.op,o.type,o.pos,Ar6 π o.after,Aw2 π o.guard⟩
def YC (π:List Nat):Option Oper→List Oper→List Oper
 | some o,r=>Sp π o::r
 | none,r=>r
def QV (ops:Array Oper) (π:List Nat):List Nat→List Oper
 | []=>[]
 | i::r=>YC π ops[i]? (QV ops π r)
def Cq (ops:Array Oper) (π:List Nat):Array Oper:=(QV ops π π).toArray
def Gn (π:List Nat) (n:Nat):Bool:=π.length == n && ((List.range n).all fun p=>match π[p]? with | some i=>decide (i < n) && Gx π i == p | none=>false) &&
 (List.range n).all fun i=>decide (Gx π i < n) && π[Gx π i]? == some i
theorem QW {ops:Array Oper} {π:List Nat}:∀ {l:List Nat},(∀ i ∈ l,i < ops.size)→(QV ops π l).length=l.length∧∀ p:Nat,(QV ops π l)[p]?=(l[p]?).bind fun i=>(ops[i]?).map (Sp π)
 | [],_=>⟨rfl,fun p=>by simp [QV]⟩
 | i::r,h=>by
  obtain ⟨h1,h2⟩:=QW (ops:=ops) (π:=π) (l:=r) (fun j hj=>h j (lx49 _ hj))
  have hi:=h i lx48
  have ho:ops[i]?=some ops[i]:=by simp [hi]
  rw [QV,ho]
  refine ⟨by simp [YC,h1],fun p=>?_⟩
  cases p with
  | zero=>simp [YC,ho]
  | succ p=>simp only [YC,lx54,h2 p]
section
variable {P:Program} {ops:Array Oper} {π:List Nat} {Q:Exit→Act→World→Prop}
theorem Hn (h:Gn π ops.size=true):π.length=ops.size∧(∀ p i,p < ops.size→π[p]?=some i→i < ops.size∧Gx π i=p)∧(∀ p,p < ops.size→∃ i,π[p]?=some i)∧∀ i,i < ops.size→Gx π i < ops.size∧π[Gx π i]?=some i:=by
 simp only [Gn,AH,lx85] at h
 obtain ⟨⟨h1,h2⟩,h3⟩:=h
 refine ⟨h1,fun p i hp hi=>?_,fun p hp=>⟨π[p]'(by omega),by simp⟩,fun i hi=>?_⟩
 ·have:=lx28.1 h2 p (HG.2 hp)
  simp only [hi,AH,AR,lx85] at this
  exact this
 ·have:=lx28.1 h3 i (HG.2 hi)
  simp only [AH,AR,lx85] at this
  exact this
theorem Sq:∀ {π:List Nat} {j:Nat},(∀ i ∈ π,i≠j)→Gx π j=π.length
 | [],j,_=>rfl
 | i::r,j,h=>by
  have hi:(i == j)=false:=by simpa using h i lx48
  rw [Gx,hi,if_neg (by decide),Sq (fun x hx=>h x (lx49 _ hx))]; rfl
theorem HO (h:Gn π ops.size=true):(Cq ops π).size=ops.size∧(∀ i,(Cq ops π)[Gx π i]?=(ops[i]?).map (Sp π))∧∀ p,p < ops.size→∃ i,i < ops.size∧Gx π i=p:=by
 obtain ⟨h1,h2,h3,h4⟩:=Hn h
 have hm:∀ i ∈ π,i < ops.size:=by
  intro i hi
  obtain ⟨p,hp⟩:=lx44.1 hi
  have hlt:=(lx22.1 hp).1
  exact (h2 p i (by omega) hp).1
 obtain ⟨g1,g2⟩:=QW (ops:=ops) (π:=π) hm
 refine ⟨by simp [Cq,g1,h1],fun i=>?_,fun p hp=>?_⟩
 ·simp only [Cq,lx39]
  rw [g2]
  by_cases hi:i < ops.size
  ·rw [(h4 i hi).2]; rfl
  ·have hge:Gx π i=π.length:=Sq (fun j hj e=>hi (by rw [←e]; exact hm j hj))
   rw [hge,lx30 (Ax _),Array.getElem?_eq_none (by omega)]; rfl
 ·obtain ⟨i,hi⟩:=h3 p hp
  exact ⟨i,(h2 p i hp hi).1,(h2 p i hp hi).2⟩
def RelL (π:List Nat) (n:Nat) (l l':Array Bool):Prop:=l.size=n∧l'.size=n∧∀ i,i < n→l.getD i false=l'.getD (Gx π i) false
theorem RelL.get (h:Gn π ops.size=true) {l l':Array Bool} (hr:RelL π ops.size l l') (j:Nat):l.getD j false=l'.getD (Gx π j) false:=by
 by_cases hj:j < ops.size
 ·exact hr.2.2 j hj
 ·obtain ⟨h1,h2,h3,h4⟩:=Hn h
  have hge:Gx π j=π.length:=Sq (fun i hi e=>by
   obtain ⟨p,hp⟩:=lx44.1 hi
   have hlt:=(lx22.1 hp).1
   have:=(h2 p i (by omega) hp).1
   omega)
  rw [hge,h1]
  have e1:=hr.1
  have e2:=hr.2.1
  simp [Array.getD,e1,e2,hj]
theorem KC (h:Gn π ops.size=true) {l l':Array Bool} (hr:RelL π ops.size l l') {i:Nat} (hi:i < ops.size):i ∈ Region.ready .any ops l↔Gx π i ∈ Region.ready .any (Cq ops π) l':=by
 obtain ⟨g1,g2,g3⟩:=HO h
 obtain ⟨h1,h2,h3,h4⟩:=Hn h
 have hlt:=(h4 i hi).1
 have hge:=hr.get h
 have e1:=hr.1
 have e2:=hr.2.1
 have ht:∀ (o:Oper),(∀ e ∈ o.after,Region.binds .any e=true→l.getD e.on false=true)↔∀ e ∈ (Sp π o).after,Region.binds .any e=true→l'.getD e.on false=true:=by
  intro o
  constructor
  ·intro hh e he hb
   simp only [Sp,Ar6,Array.mem_map] at he
   obtain ⟨e0,q1,rfl⟩:=he
   rw [←hge e0.on]
   exact hh e0 q1 hb
  ·intro hh e he hb
   have:=hh { e with on:=Gx π e.on } (by simp only [Sp,Ar6,Array.mem_map]; exact ⟨e,he,rfl⟩) hb
   rw [hge e.on]; exact this
 constructor
 ·intro hh
  obtain ⟨o,ho,k1,k2⟩:=Eo hh
  refine OG (o:=Sp π o) (by rw [g2,ho]; rfl) ?_ ((ht o).1 k2)
  rw [Gw (by omega),←hge,←Gw (by omega)]; exact k1
 ·intro hh
  obtain ⟨o',ho',k1,k2⟩:=Eo hh
  have ho:ops[i]?=some ops[i]:=by simp [hi]
  rw [g2,ho] at ho'
  simp only [lx34,lx16] at ho'
  subst ho'
  refine OG ho ?_ ((ht _).2 k2)
  rw [Gw (by omega),hge,←Gw (by omega)]; exact k1
theorem Sr (h:Gn π ops.size=true) (T:Array Value) (g:Nat):yielded (Cq ops π) T (Gx π g)=yielded ops T g:=by
 obtain ⟨g1,g2,g3⟩:=HO h
 unfold yielded
 rw [g2]
 cases ops[g]? <;> rfl
theorem T8 (h:Gn π ops.size=true) (T:Array Value) (o:Oper):Region.wanted (Sp π o) (yielded (Cq ops π) T)=Region.wanted o (yielded ops T):=by
 unfold Region.wanted Sp Aw2
 cases hg:o.guard with
 | none=>rfl
 | some g=>simp only [Sr h]
theorem Abc (h:Gn π ops.size=true) {i:Nat} {K:Act→World→Prop} {a:Act} {w:World} (hh:wpOp P (Cq ops π) Q (Gx π i) K a w):wpOp P ops Q i K a w:=by
 obtain ⟨g1,g2,g3⟩:=HO h
 unfold wpOp at hh ⊢
 rw [g2] at hh
 cases ho:ops[i]? with
 | none=>rw [ho] at hh; exact hh
 | some o=>
  rw [ho] at hh
  simp only [lx34] at hh ⊢
  rw [T8 h] at hh
  exact hh
theorem Xh (h:Gn π ops.size=true):∀ (fuel:Nat) (l l':Array Bool) (a:Act) (w:World),RelL π ops.size l l'→wpAny P .any (Cq ops π) Q fuel l' a w→wpAny P .any ops Q fuel l a w:=by
 obtain ⟨g1,g2,g3⟩:=HO h
 obtain ⟨h1,h2,h3,h4⟩:=Hn h
 have hnil:∀ l l',RelL π ops.size l l'→(Region.ready .any ops l=[]↔Region.ready .any (Cq ops π) l'=[]):=by
  intro l l' hr
  constructor
  ·intro hh
   cases hq:Region.ready .any (Cq ops π) l' with
   | nil=>rfl
   | cons p r=>
    exfalso
    have hp:p ∈ Region.ready .any (Cq ops π) l':=by rw [hq]; exact lx48
    obtain ⟨o,ho,_⟩:=Eo hp
    have hlt:=(lx50.1 ho).1
    obtain ⟨i,hi,rfl⟩:=g3 p (by omega)
    have:=(KC h hr hi).2 hp
    rw [hh] at this; cases this
  ·intro hh
   cases hq:Region.ready .any ops l with
   | nil=>rfl
   | cons i r=>
    exfalso
    have hp:i ∈ Region.ready .any ops l:=by rw [hq]; exact lx48
    obtain ⟨o,ho,_⟩:=Eo hp
    have:=(KC h hr (lx50.1 ho).1).1 hp
    rw [hh] at this; cases this
 intro fuel
 induction fuel with
 | zero=>intro l l' a w hr hh; exact ⟨(hnil l l' hr).2 hh.1,hh.2⟩
 | succ fuel ih=>
  intro l l' a w hr hh
  refine ⟨fun hq=>hh.1 ((hnil l l' hr).1 hq),fun i hi=>?_⟩
  obtain ⟨o,ho,_⟩:=Eo hi
  have hlt:=(lx50.1 ho).1
  refine Abc h (wpOp_mono (fun a w hw=>ih _ _ a w ?_ hw) (hh.2 _ ((KC h hr hlt).1 hi)))
  refine ⟨by simp [hr.1],by simp [hr.2.1],fun j hj=>?_⟩
  have e1:=hr.1
  have e2:=hr.2.1
  have hlj:=(h4 j hj).1
  have hli:=(h4 i hlt).1
  by_cases hij:j=i
  ·subst hij
   have a1:j < l.size:=Ah
   have a2:Gx π j < l'.size:=Ah
   simp [a1,a2]
  ·have hne:Gx π i≠Gx π j:=fun e=>by
    have q1:=(h4 i hlt).2
    rw [e,(h4 j hj).2] at q1
    injection q1 with q1
    exact hij q1
   have:=hr.2.2 j hj
   simpa [Array.getD_eq_getD_getElem?,Array.getElem?_setIfInBounds_ne hne,Array.getElem?_setIfInBounds_ne (fun e:i=j=>hij e.symm)] using this
end
section
variable {P:Program} {E:Env} {w:World} {X:Nat→Prop} {loc:Nat→Option (Nat × Nat)} {a:Act} {ops:Array Oper} {tr:Nat→St} {π:List Nat}
theorem NB (hE:EnvOk P E) (hm:P.follows .mixedOrders=true) {id:Nat} (hp:Gn π ops.size=true) (hB:Fs κ (Cq ops π)=true) (ht:Trace P E κ (Cq ops π) tr) (hs:SR w X loc (tr 0) a) {Q:Exit→Act→World→Prop}
  (hQ:∀ a' w' X' loc',SR w' X' loc' (tr (Cq ops π).size) a'→Evo w X ((tr 0).hc loc) w' X' ((tr (Cq ops π).size).hc loc')→Q .normal a' w'):(Code.region id ops true).wp P Q a w:=by
 refine wp_region_any hm ?_
 have hb:Below w.heap.size w { w with drawn:=w.drawn+1 }:=⟨rfl,rfl,rfl,Ax _,fun _ _=>rfl⟩
 have hf:∀ n j,(Array.replicate n false).getD j false=false:=by
  intro n j
  rcases DF j n with h | h
  ·simp [h]
  ·simp [h]
 obtain ⟨g1,_,_⟩:=HO hp
 refine Xh hp ops.size (Array.replicate ops.size false) (Array.replicate (Cq ops π).size false) a _ ⟨by simp,by simp [g1],fun i hi=>by rw [hf,hf]⟩ ?_
 rw [←g1]
 refine T7 (w:=w) (X:=X) (loc:=loc) hE hB ht hQ (Cq ops π).size (Array.replicate (Cq ops π).size false) a _ X loc 0 (by simp) ⟨?_,BX _,fun h hh=>by omega,?_,DW hb X _,fun _=>0,?_,?_⟩ ?_
 ·intro j oj hoj hLj
  have hLj':(Array.replicate (Cq ops π).size false).getD j false=true:=hLj
  rw [hf] at hLj'; cases hLj'
 ·have e:C0 (Cq ops π) (tr 0).T (D9 κ (Cq ops π) tr 0) (Cq ops π).size (fun j=>(Array.replicate (Cq ops π).size false).getD j false)=(tr 0).T:=by
   have:=Ld (ops:=Cq ops π) (T0:=(tr 0).T) (val:=D9 κ (Cq ops π) tr 0) (L:=fun j=>(Array.replicate (Cq ops π).size false).getD j false) (i:=0) (fun j _=>hf _ j) (Cq ops π).size
   rw [BO] at this
   rw [this]; rfl
  rw [e]
  exact hs.below hb
 ·intro k _ _ hL
  rw [hf] at hL; cases hL
 ·intro k k' _ _ hL
  rw [hf] at hL; cases hL
 ·unfold MZ
  refine Og (lx86 _ _) ?_
  simp
end
def Aeg:Operand→Bool
 | .const (.slice none 0 0)=>true
 | _=>false
def AI:Op→Bool
 | .binOp _ _ _ y _=>!Aeg y
 | .move _ | .assign _ | .pick .. | .unOp .. | .convert .. | .field .. | .extract .. | .build .. | .index .. | .makeFunc ..=>true
 | .call { callee:=.builtin .min,.. } | .call { callee:=.builtin .max,.. }=>true
 | _=>false
section
variable {P:Program} {E:Env} {ops:Array Oper}
theorem T9 {op:Op} (h:AI op=true) (T:List AV) (H H2:List Blk) (c c2:Nat):Av P ⟨T,H,c⟩ op=Av P ⟨T,H2,c2⟩ op:=by
 cases op with
 | call cl=>
  obtain ⟨cal,args,ats⟩:=cl
  cases cal with
  | builtin b=>cases b <;> first | (simp [AI] at h; done) | rfl
  | _=>simp [AI] at h
 | makeFunc f first caps=>cases f <;> rfl
 | binOp op t x y t'=>
  simp only [AI,J6] at h
  have hn:∀ u,Ab0 P op t u y=none:=by
   intro u
   unfold Ab0
   split
   ·simp [Aeg] at h
   ·rfl
  simp only [Av,Qz,hn]
 | _=>first | (simp [AI] at h; done) | rfl
theorem Kh {op:Op} (h:AI op=true):B9 op=false∧Ce κ op=false:=by
 cases op with
 | call cl=>
  obtain ⟨cal,args,ats⟩:=cl
  cases cal with
  | builtin b=>cases b <;> first | (simp [AI] at h; done) | exact ⟨rfl,rfl⟩
  | _=>simp [AI] at h
 | _=>first | (simp [AI] at h; done) | exact ⟨rfl,rfl⟩
theorem M0 {o:Oper} (h:AI o.op=true) {T T':List AV} {H H1 H2:List Blk} {c c1 c2:Nat} (hs:Ad P E ops ⟨T,H,c⟩ o=some ⟨T',H1,c1⟩):Ad P E ops ⟨T,H2,c2⟩ o=some ⟨T',H2,c2⟩:=by
 obtain ⟨k1,k2⟩:=Kh (κ:=fun _=>false) h
 have k2:=Yv k2
 have p1:∀ H c,AP E ⟨T,H,c⟩ o.op=true:=fun H c=>by simp [AP,k1,k2]
 have p2:∀ H c,I0 P E ⟨T,H,c⟩ o.op=Av P ⟨T,H,c⟩ o.op:=fun H c=>by simp [I0,k1]
 have r:=T9 (P:=P) h T H H2 c c2
 have hg:∀ j,Ao ops ⟨T,H,c⟩ j=Ao ops ⟨T,H2,c2⟩ j:=fun j=>rfl
 unfold Ad at hs ⊢
 simp only [p1,p2,lx6] at hs ⊢
 rw [←r]
 split at hs
 ·simp only [lx24] at hs
  obtain ⟨v,hv,hs⟩:=hs
  rw [Bn] at hs
  cases hs
  rw [hv]; simp [Bn]
 ·rename_i j want hgd
  rw [←hg j]
  split at hs
  ·rename_i b hb
   simp only [lx24] at hs ⊢
   obtain ⟨v,hv,hs⟩:=hs
   rw [Bn] at hs
   cases hs
   exact ⟨v,hv,by rw [Bn]⟩
  ·rw [Bn] at hs
   cases hs
   rw [Bn]
  ·cases hs
structure Past where
 at_:Nat
 H:List Blk
 c:Nat
structure Did where
 at_:Nat
 o:Oper
 T:List AV
 T':List AV
def Chk (κ:Nat→Bool) (ops:Array Oper) (i k:Nat) (p:Prop):Prop:=gB κ ops i k=false→p
def Ki (κ:Nat→Bool) (ops:Array Oper) (i:Nat) (H':List Blk):Op→Prop
 | .buildSlice ..=>Chk κ ops i i (norefs (CZ H')=true)
 | _=>True
def Ss (P:Program) (E:Env) (ops:Array Oper) (i:Nat) (o:Oper) (T T':List AV):List Past→Prop
 | []=>True
 | h::r=>Chk E.hb ops h.at_ i (Ad P E ops ⟨T,h.H,h.c⟩ o=some ⟨T',h.H,h.c⟩)∧Ss P E ops i o T T' r
def chkF (P:Program) (E:Env) (ops:Array Oper) (k:Nat) (H:List Blk) (c:Nat):List Did→Prop
 | []=>True
 | d::r=>Chk E.hb ops d.at_ k (Ad P E ops ⟨d.T,H,c⟩ d.o=some ⟨d.T',H,c⟩)∧chkF P E ops k H c r
theorem Ua {i o T T'}:∀ {hs:List Past},Ss P E ops i o T T' hs→∀ h ∈ hs,Chk E.hb ops h.at_ i (Ad P E ops ⟨T,h.H,h.c⟩ o=some ⟨T',h.H,h.c⟩)
 | [],_,h,hm=>by cases hm
 | x::r,hc,h,hm=>by
  rcases lx59.1 hm with rfl | hm
  ·exact hc.1
  ·exact Ua hc.2 h hm
theorem Ub {k H c}:∀ {ds:List Did},chkF P E ops k H c ds→∀ d ∈ ds,Chk E.hb ops d.at_ k (Ad P E ops ⟨d.T,H,c⟩ d.o=some ⟨d.T',H,c⟩)
 | [],_,h,hm=>by cases hm
 | x::r,hc,h,hm=>by
  rcases lx59.1 hm with rfl | hm
  ·exact hc.1
  ·exact Ub hc.2 h hm
def Dp (P:Program) (E:Env) (ops:Array Oper) (K:St→Prop):List Oper→Nat→St→List Past→List Did→Prop
 | [],_,s,_,_=>K s
 | o::r,i,s,hs,ds=>∃ s',Ad P E ops s o=some s'∧
   if Ce E.hb o.op=false then
    if AI o.op=true then Dp P E ops K r (i+1) s' hs ds
    else (s'.H=s.H∧s'.cnt=s.cnt)∧Ss P E ops i o s.T s'.T hs∧Dp P E ops K r (i+1) s' hs (⟨i,o,s.T,s'.T⟩::ds)
   else chkF P E ops i s'.H s'.cnt ds∧Ki E.hb ops i s'.H o.op∧Dp P E ops K r (i+1) s' (⟨i,s.H,s.cnt⟩::hs) ds
theorem EO {K:St→Prop}:∀ (l:List Oper) (i:Nat) (s:St) (hs:List Past) (ds:List Did),Dp P E ops K l i s hs ds↔∃ s1,Dp P E ops (·=s1) l i s hs ds∧K s1
 | [],i,s,hs,ds=>by simp [Dp]
 | o::r,i,s,hs,ds=>by
  simp only [Dp]
  constructor
  ·rintro ⟨s',h1,h2⟩
   split at h2
   ·split at h2
    ·obtain ⟨s1,g1,g2⟩:=(EO r _ _ _ _).1 h2
     rename_i hp hn
     exact ⟨s1,⟨s',h1,by rw [if_pos hp,if_pos hn]; exact g1⟩,g2⟩
    ·obtain ⟨s1,g1,g2⟩:=(EO r _ _ _ _).1 h2.2.2
     rename_i hp hn
     exact ⟨s1,⟨s',h1,by rw [if_pos hp,if_neg hn]; exact ⟨h2.1,h2.2.1,g1⟩⟩,g2⟩
   ·obtain ⟨s1,g1,g2⟩:=(EO r _ _ _ _).1 h2.2.2
    rename_i hp
    exact ⟨s1,⟨s',h1,by rw [if_neg hp]; exact ⟨h2.1,h2.2.1,g1⟩⟩,g2⟩
  ·rintro ⟨s1,⟨s',h1,h2⟩,g2⟩
   refine ⟨s',h1,?_⟩
   split at h2
   ·split at h2
    ·rename_i hp hn
     rw [if_pos hp,if_pos hn]
     exact (EO r _ _ _ _).2 ⟨s1,h2,g2⟩
    ·rename_i hp hn
     rw [if_pos hp,if_neg hn]
     exact ⟨h2.1,h2.2.1,(EO r _ _ _ _).2 ⟨s1,h2.2.2,g2⟩⟩
   ·rename_i hp
    rw [if_neg hp]
    exact ⟨h2.1,h2.2.1,(EO r _ _ _ _).2 ⟨s1,h2.2.2,g2⟩⟩
def EZ (P:Program) (E:Env) (ops:Array Oper) (s:St):Nat→St
 | 0=>s
 | i+1=>match ops[i]? with
  | some o=>(Ad P E ops (EZ P E ops s i) o).getD (EZ P E ops s i)
  | none=>EZ P E ops s i
theorem Lf {s0 s1:St}:∀ (l:List Oper) (i:Nat) (hs:List Past) (ds:List Did),ops.toList.drop i=l→i≤ops.size→
  (∀ j o,j < i→ops[j]?=some o→Ad P E ops (EZ P E ops s0 j) o=some (EZ P E ops s0 (j+1)))→
  (∀ j,j < i→hd E.hb ops (EZ P E ops s0) j→⟨j,(EZ P E ops s0 j).H,(EZ P E ops s0 j).cnt⟩ ∈ hs)→
  (∀ j o,j < i→ops[j]?=some o→Ce E.hb o.op=false→(EZ P E ops s0 (j+1)).H=(EZ P E ops s0 j).H∧(EZ P E ops s0 (j+1)).cnt=(EZ P E ops s0 j).cnt)→
  (∀ j o,j < i→ops[j]?=some o→Ce E.hb o.op=false→AI o.op=false→⟨j,o,(EZ P E ops s0 j).T,(EZ P E ops s0 (j+1)).T⟩ ∈ ds)→
  (∀ j o h,j < i→ops[j]?=some o→Ce E.hb o.op=false→h < j→hd E.hb ops (EZ P E ops s0) h→gB E.hb ops h j=false→
   Ad P E ops ⟨(EZ P E ops s0 j).T,(EZ P E ops s0 h).H,(EZ P E ops s0 h).cnt⟩ o=some ⟨(EZ P E ops s0 (j+1)).T,(EZ P E ops s0 h).H,(EZ P E ops s0 h).cnt⟩)→
  (∀ j o h,h < i→ops[j]?=some o→Ce E.hb o.op=false→j < h→hd E.hb ops (EZ P E ops s0) h→before ops j h=false→
   Ad P E ops ⟨(EZ P E ops s0 j).T,(EZ P E ops s0 (h+1)).H,(EZ P E ops s0 (h+1)).cnt⟩ o=some ⟨(EZ P E ops s0 (j+1)).T,(EZ P E ops s0 (h+1)).H,(EZ P E ops s0 (h+1)).cnt⟩)→
  (∀ j o,j < i→ops[j]?=some o→Hm o=true→gB E.hb ops j j=false→norefs (CZ (EZ P E ops s0 (j+1)).H)=true)→
  Dp P E ops (·=s1) l i (EZ P E ops s0 i) hs ds→Trace P E E.hb ops (EZ P E ops s0)∧EZ P E ops s0 ops.size=s1
 | [],i,hs,ds,hl,hi,h1,h2,hk,h3,h4,h5,h6,h=>by
  have Fe:i=ops.size:=by
   rcases DF i ops.size with hlt | hge
   ·have:i < ops.toList.length:=by simpa using hlt
    rw [lx75 this] at hl; cases hl
   ·omega
  subst Fe
  refine ⟨⟨fun j o ho=>h1 j o (lx50.1 ho).1 ho,fun j o ho=>hk j o (lx50.1 ho).1 ho,fun j o k ho hp hk hh hb=>h4 j o k (lx50.1 ho).1 ho hp hk hh hb,
   fun j o k ho hp hk hh hb=>h5 j o k ?_ ho hp hk hh hb,fun j o ho hl hg=>h6 j o (lx50.1 ho).1 ho hl hg⟩,h⟩
  obtain ⟨ok,hok,_⟩:=hh
  exact (lx50.1 hok).1
 | o::r,i,hs,ds,hl,hi,h1,h2,hk,h3,h4,h5,h6,h=>by
  have hlt:i < ops.toList.length:=by
   rcases DF i ops.toList.length with h | h
   ·exact h
   ·rw [List.drop_eq_nil_of_le h] at hl; cases hl
  have hlt':i < ops.size:=by simpa using hlt
  rw [lx75 hlt] at hl
  injection hl with ho0 hr
  have ho:ops[i]?=some o:=by rw [←ho0]; simp [hlt']
  obtain ⟨s',Au,hrest⟩:=h
  have hs':EZ P E ops s0 (i+1)=s':=by simp only [EZ,ho,Au,lx10]
  have n1:∀ j o',j < i+1→ops[j]?=some o'→Ad P E ops (EZ P E ops s0 j) o'=some (EZ P E ops s0 (j+1)):=by
   intro j o' hj hoj
   rcases DF j i with hji | hji
   ·exact h1 j o' hji hoj
   ·have:j=i:=by omega
    subst this
    rw [ho] at hoj; cases hoj
    rw [hs']; exact Au
  rw [←hs'] at hrest
  cases hp:Ce E.hb o.op with
  | false=>
   rw [hp,if_pos rfl] at hrest
   have nh:¬ hd E.hb ops (EZ P E ops s0) i:=by
    rintro ⟨o',ho',hq⟩
    rw [ho] at ho'; cases ho'
    rw [hp] at hq; cases hq
   have n2:∀ j,j < i+1→hd E.hb ops (EZ P E ops s0) j→⟨j,(EZ P E ops s0 j).H,(EZ P E ops s0 j).cnt⟩ ∈ hs:=by
    intro j hj hh
    rcases DF j i with hji | hji
    ·exact h2 j hji hh
    ·have:j=i:=by omega
     subst this; exact absurd hh nh
   have n5:∀ j o' h,h < i+1→ops[j]?=some o'→Ce E.hb o'.op=false→j < h→hd E.hb ops (EZ P E ops s0) h→before ops j h=false→
     Ad P E ops ⟨(EZ P E ops s0 j).T,(EZ P E ops s0 (h+1)).H,(EZ P E ops s0 (h+1)).cnt⟩ o'=some ⟨(EZ P E ops s0 (j+1)).T,(EZ P E ops s0 (h+1)).H,(EZ P E ops s0 (h+1)).cnt⟩:=by
    intro j o' k hk hoj hpj hjk hh hb
    rcases DF k i with hki | hki
    ·exact h5 j o' k hki hoj hpj hjk hh hb
    ·have:k=i:=by omega
     subst this; exact absurd hh nh
   have n6:∀ j o',j < i+1→ops[j]?=some o'→Hm o'=true→gB E.hb ops j j=false→norefs (CZ (EZ P E ops s0 (j+1)).H)=true:=by
    intro j o' hj hoj hl hg
    rcases DF j i with hji | hji
    ·exact h6 j o' hji hoj hl hg
    ·have:j=i:=by omega
     subst this
     rw [ho] at hoj; cases hoj
     simp only [Hm,AH] at hl
     rw [Yu (MX hl.2).1] at hp; cases hp
   have nk:((EZ P E ops s0 (i+1)).H=(EZ P E ops s0 i).H∧(EZ P E ops s0 (i+1)).cnt=(EZ P E ops s0 i).cnt)→∀ j o',j < i+1→ops[j]?=some o'→Ce E.hb o'.op=false→
     (EZ P E ops s0 (j+1)).H=(EZ P E ops s0 j).H∧(EZ P E ops s0 (j+1)).cnt=(EZ P E ops s0 j).cnt:=by
    intro hki j o' hj hoj hpj
    rcases DF j i with hji | hji
    ·exact hk j o' hji hoj hpj
    ·have:j=i:=by omega
     subst this; exact hki
   cases hn:AI o.op with
   | true=>
    rw [hn,if_pos rfl] at hrest
    have hki:=Mn (s:=EZ P E ops s0 i) (by
     obtain ⟨k1,k2⟩:=Kh (κ:=E.hb) hn
     simp [AP,k1,Yv k2]) (n1 i o (by omega) ho)
    refine Lf r (i+1) hs ds hr (by omega) n1 n2 (nk hki) ?_ ?_ n5 n6 hrest
    ·intro j o' hj hoj hpj hnj
     rcases DF j i with hji | hji
     ·exact h3 j o' hji hoj hpj hnj
     ·have:j=i:=by omega
      subst this
      rw [ho] at hoj; cases hoj
      rw [hn] at hnj; cases hnj
    ·intro j o' k hj hoj hpj hkj hh hb
     rcases DF j i with hji | hji
     ·exact h4 j o' k hji hoj hpj hkj hh hb
     ·have:j=i:=by omega
      subst this
      rw [ho] at hoj; cases hoj
      exact M0 hn (n1 j o (by omega) ho)
   | false=>
    rw [hn,if_neg (by decide)] at hrest
    refine Lf r (i+1) hs _ hr (by omega) n1 n2 (nk hrest.1) ?_ ?_ n5 n6 hrest.2.2
    ·intro j o' hj hoj hpj hnj
     rcases DF j i with hji | hji
     ·exact lx49 _ (h3 j o' hji hoj hpj hnj)
     ·have:j=i:=by omega
      subst this
      rw [ho] at hoj; cases hoj
      exact lx48
    ·intro j o' k hj hoj hpj hkj hh hb
     rcases DF j i with hji | hji
     ·exact h4 j o' k hji hoj hpj hkj hh hb
     ·have:j=i:=by omega
      subst this
      rw [ho] at hoj; cases hoj
      exact Ua hrest.2.1 _ (h2 k hkj hh) hb
  | true=>
   rw [hp,if_neg (by decide)] at hrest
   refine Lf r (i+1) _ ds hr (by omega) n1 ?_ ?_ ?_ ?_ ?_ ?_ hrest.2.2
   ·intro j hj hh
    rcases DF j i with hji | hji
    ·exact lx49 _ (h2 j hji hh)
    ·have:j=i:=by omega
     subst this; exact lx48
   ·intro j o' hj hoj hpj
    rcases DF j i with hji | hji
    ·exact hk j o' hji hoj hpj
    ·exact Adk
   ·intro j o' hj hoj hpj hnj
    rcases DF j i with hji | hji
    ·exact h3 j o' hji hoj hpj hnj
    ·exact Adk
   ·intro j o' k hj hoj hpj hkj hh hb
    rcases DF j i with hji | hji
    ·exact h4 j o' k hji hoj hpj hkj hh hb
    ·exact Adk
   ·intro j o' k hk hoj hpj hjk hh hb
    rcases DF k i with hki | hki
    ·exact h5 j o' k hki hoj hpj hjk hh hb
    ·have:k=i:=by omega
     subst this
     cases hnj:AI o'.op with
     | true=>exact M0 hnj (n1 j o' (by omega) hoj)
     | false=>exact Ub hrest.1 _ (h3 j o' hjk hoj hpj hnj) (by rw [Aw1 (by unfold Bo; rw [hoj]; exact hpj)]; exact hb)
   ·intro j o' hj hoj hl hg
    rcases DF j i with hji | hji
    ·exact h6 j o' hji hoj hl hg
    ·have:j=i:=by omega
     subst this
     rw [ho] at hoj; cases hoj
     have hst:=n1 j o (by omega) ho
     obtain ⟨_,rv,ty,esz,els,tmp,e1,_,e3⟩:=KA (T:=(EZ P E ops s0 j).T) (H:=(EZ P E ops s0 j).H) (c:=(EZ P E ops s0 j).cnt) hl hst
     by_cases hb:∃ t n parts,o.op=.buildSlice t n parts
     ·obtain ⟨t,n,parts,hb⟩:=hb
      have:=hrest.2.1
      rw [hb] at this
      exact this hg
     ·rw [e1,Dg]
      exact e3 fun t n parts e=>hb ⟨t,n,parts,e⟩
theorem Il {s0 s1:St} (h:Dp P E ops (·=s1) ops.toList 0 s0 [] []):∃ tr,Trace P E E.hb ops tr∧tr 0=s0∧tr ops.size=s1:=by
 obtain ⟨h1,h2⟩:=Lf (s0:=s0) (s1:=s1) ops.toList 0 [] [] rfl (BX _) (fun j o hj=>by omega) (fun j hj=>by omega) (fun j o hj=>by omega) (fun j o hj=>by omega) (fun j o k hj=>by omega) (fun j o k hk=>by omega) (fun j o hj=>by omega) h
 exact ⟨_,h1,rfl,h2⟩
theorem YD {op:Op} (h1:B9 op=false) (h2:isHeapOp op=false):Ce κ op=false:=by
 unfold Ce
 split <;> first | rfl | (simp [B9] at h1; done) | (simp [isHeapOp] at h2; done)
theorem Aeh {s:St} {op:Op} (hp:AP E s op=true):Ce E.hb op=false:=by
 cases hc:B9 op with
 | false=>
  refine YD hc ?_
  unfold AP at hp
  rw [hc] at hp
  simpa using hp
 | true=>
  unfold Ce
  split
  all_goals first | rfl | (simp [B9] at hc; done) | skip
  rename_i g as ts
  unfold AP at hp
  rw [hc,if_pos rfl] at hp
  have ht:∃ l,E9 s (.call ⟨.value (.func g),as,ts⟩)=some (g,l):=⟨_,rfl⟩
  obtain ⟨l,ht⟩:=ht
  rw [ht] at hp
  simp only at hp
  simp [Env.hb,hp]
theorem Hx {s1:St}:∀ (l:List Oper) (i:Nat) (s:St) (ds:List Did),Ds P E ops l s=some s1→Dp P E ops (·=s1) l i s [] ds
 | [],i,s,ds,h=>by simp only [Ds,lx16] at h; exact h
 | o::r,i,s,ds,h=>by
  simp only [Ds] at h
  split at h
  ·rename_i hp
   split at h
   ·rename_i s' hs'
    refine ⟨s',hs',?_⟩
    have hh:Ce E.hb o.op=false:=Aeh hp
    rw [if_pos hh]
    split
    ·exact Hx r _ _ _ h
    ·exact ⟨Mn hp hs',trivial,Hx r _ _ _ h⟩
   ·cases h
  ·cases h
theorem Ea {s1:St}:∀ (l:List Oper) (i:Nat) (s:St) (ds:List Did),l.any Fb=false→Dp P E ops (·=s1) l i s [] ds→Ds P E ops l s=some s1
 | [],i,s,ds,_,h=>by simp only [Ds]; exact congrArg some h
 | o::r,i,s,ds,hh,h=>by
  simp only [List.any_cons,J7] at hh
  have hp:AP E s o.op=true:=by
   cases hq:AP E s o.op with
   | true=>rfl
   | false=>rw [Nz hq] at hh; simp at hh
  obtain ⟨s',h1,h2⟩:=h
  have hq:Ce E.hb o.op=false:=by
   have:=hh.1
   simp only [Fb,J7] at this
   exact YD this.1 this.2
  rw [if_pos hq] at h2
  simp only [Ds,hp,lx6,h1]
  split at h2
  ·exact Ea r _ _ _ hh.2 h2
  ·exact Ea r _ _ _ hh.2 h2.2.2
def dpA (P:Program) (E:Env) (ops:Array Oper) (K:St→Prop) (o:Oper) (r:List Oper) (i:Nat) (s:St) (hs:List Past) (ds:List Did) (p n:Bool):Option St→Prop
 | some s'=>if p=false then
    if n=true then Dp P E ops K r (i+1) s' hs ds
    else (s'.H=s.H∧s'.cnt=s.cnt)∧Ss P E ops i o s.T s'.T hs∧Dp P E ops K r (i+1) s' hs (⟨i,o,s.T,s'.T⟩::ds)
   else chkF P E ops i s'.H s'.cnt ds∧Ki E.hb ops i s'.H o.op∧Dp P E ops K r (i+1) s' (⟨i,s.H,s.cnt⟩::hs) ds
 | none=>False
variable {K:St→Prop} {o:Oper} {r:List Oper} {i:Nat} {s:St} {hs:List Past} {ds:List Did}
theorem QX:Dp P E ops K [] i s hs ds=K s:=rfl
theorem OH:Dp P E ops K (o::r) i s hs ds=dpA P E ops K o r i s hs ds (Ce E.hb o.op) (AI o.op) (Ad P E ops s o):=by
 simp only [Dp,dpA]
 cases Ad P E ops s o with
 | none=>simp
 | some s'=>simp
theorem Aei (s':St):dpA P E ops K o r i s hs ds false true (some s')=Dp P E ops K r (i+1) s' hs ds:=rfl
theorem Aej (T T':List AV) (H H':List Blk) (c c':Nat):dpA P E ops K o r i ⟨T,H,c⟩ hs ds false false (some ⟨T',H',c'⟩)=((H'=H∧c'=c)∧Ss P E ops i o T T' hs∧Dp P E ops K r (i+1) ⟨T',H',c'⟩ hs (⟨i,o,T,T'⟩::ds)):=rfl
theorem Aot (n:Bool) (T T':List AV) (H H':List Blk) (c c':Nat):dpA P E ops K o r i ⟨T,H,c⟩ hs ds true n (some ⟨T',H',c'⟩)=(chkF P E ops i H' c' ds∧Ki E.hb ops i H' o.op∧Dp P E ops K r (i+1) ⟨T',H',c'⟩ (⟨i,H,c⟩::hs) ds):=rfl
theorem Uc (T T':List AV):Ss P E ops i o T T' []=True:=rfl
theorem QY (T T':List AV) (j:Nat) (H:List Blk) (c:Nat):Ss P E ops i o T T' (⟨j,H,c⟩::hs)=(Chk E.hb ops j i (Ad P E ops ⟨T,H,c⟩ o=some ⟨T',H,c⟩)∧Ss P E ops i o T T' hs):=rfl
theorem Ud (H:List Blk) (c:Nat):chkF P E ops i H c []=True:=rfl
theorem QZ (H:List Blk) (c:Nat) (j:Nat) (o':Oper) (T T':List AV):chkF P E ops i H c (⟨j,o',T,T'⟩::ds)=(Chk E.hb ops j i (Ad P E ops ⟨T,H,c⟩ o'=some ⟨T',H,c⟩)∧chkF P E ops i H c ds):=rfl
theorem M1 (H':List Blk) (t:TypeId):Ki E.hb ops i H' (.alloc t)=True:=rfl
theorem Q0 (H':List Blk) (t:TypeId) (x:Operand):Ki E.hb ops i H' (.box t x)=True:=rfl
theorem M3 (H':List Blk) (t:TypeId) (x y:Operand):Ki E.hb ops i H' (.store t x y)=True:=rfl
theorem OI (H':List Blk) (t:TypeId) (x y:Operand):Ki E.hb ops i H' (.makeSlice t x y)=True:=rfl
theorem OJ (H':List Blk) (c:Call):Ki E.hb ops i H' (.call c)=True:=rfl
theorem M4 (H':List Blk) (t:TypeId) (n:Nat) (ps:Array (Nat × Operand)):Ki E.hb ops i H' (.buildSlice t n ps)=Chk E.hb ops i i (norefs (CZ H')=true):=rfl
theorem M5 (B:Blk):CZ [B]=B.els:=rfl
theorem Lg (A B:Blk) (r:List Blk):CZ (A::B::r)=CZ (B::r):=rfl
theorem Ue (j k:Nat):Chk E.hb ops j k True=True:=by simp [Chk]
theorem Ae {j k:Nat} {p:Prop} (h:gB E.hb ops j k=true):Chk E.hb ops j k p:=fun h'=>by rw [h] at h'; cases h'
end
end Go.SX
