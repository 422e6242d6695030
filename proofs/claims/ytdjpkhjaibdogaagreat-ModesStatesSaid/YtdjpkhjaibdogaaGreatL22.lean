/-
  Joined texts: SYJ, SYC.
  Conditions: none.
-/
import Derived.Test.YtdjpkhjaibdogaaGreatL17
import Derived.Test.YtdjpkhjaibdogaaGreatL20
namespace Go.SX
set_option linter.unusedSimpArgs false
set_option linter.unusedVariables false
open Go.RowKit (Below)
inductive Rn (d:Nat) (σ:Nat→Nat) (c2:Nat) (H1:List Blk):AV→AV→Prop
 | nr {a} (h:a.noref=true):Rn d σ c2 H1 a a
 | jk (a):Rn d σ c2 H1 a .jk
 | sl {v2} (j v lo n) (B:Blk) (hB:H1[σ j]?=some B) (hl:B.live=true) (hv:B.ver=v) (hv2:v2 < c2):Rn d σ c2 H1 (.sl (σ j) v lo n) (.sl (d+j) v2 lo n)
 | pt {v2} (j v i off) (B:Blk) (hB:H1[σ j]?=some B) (hl:B.live=true) (hv:B.ver=v) (hv2:v2 < c2):Rn d σ c2 H1 (.pt (σ j) v i off) (.pt (d+j) v2 i off)
 | ag {cs ds} (hl:cs.length=ds.length) (h:∀ (i:Nat) (a b:AV),cs[i]?=some a→ds[i]?=some b→Rn d σ c2 H1 a b):Rn d σ c2 H1 (.ag cs) (.ag ds)
 | tu {cs ds} (hl:cs.length=ds.length) (h:∀ (i:Nat) (a b:AV),cs[i]?=some a→ds[i]?=some b→Rn d σ c2 H1 a b):Rn d σ c2 H1 (.tu cs) (.tu ds)
def RnL (d:Nat) (σ:Nat→Nat) (c2:Nat) (H1:List Blk):List AV→List AV→Prop
 | [],[]=>True
 | a::l,b::m=>Rn d σ c2 H1 a b∧RnL d σ c2 H1 l m
 | _,_=>False
theorem rnL_get {d:Nat} {σ:Nat→Nat} {c2:Nat} {H1:List Blk}:∀ {l m:List AV},RnL d σ c2 H1 l m→l.length=m.length∧∀ (i:Nat) (a b:AV),l[i]?=some a→m[i]?=some b→Rn d σ c2 H1 a b
 | [],[],_=>⟨rfl,fun i a b h=>by simp at h⟩
 | a::l,b::m,⟨h1,h2⟩=>by
  obtain ⟨e,h⟩:=rnL_get h2
  refine ⟨by simp [e],fun i x y hx hy=>?_⟩
  cases i with
  | zero=>simp at hx hy; subst hx; subst hy; exact h1
  | succ i=>exact h i x y (by simpa using hx) (by simpa using hy)
 | [],_::_,h=>h.elim
 | _::_,[],h=>h.elim
theorem rn_ag {d:Nat} {σ:Nat→Nat} {c2:Nat} {H1:List Blk} {cs ds:List AV} (h:RnL d σ c2 H1 cs ds):Rn d σ c2 H1 (.ag cs) (.ag ds):=.ag (rnL_get h).1 (rnL_get h).2
def RnH (d:Nat) (σ:Nat→Nat) (c c2:Nat) (H1 H2:List Blk):Prop:=
 ∀ j B2,H2[j]?=some B2→B2.live=true→∃ B1,H1[σ j]?=some B1∧B1.live=true∧c≤B2.ver∧B2.ver < c2∧B1.ty=B2.ty∧B1.esz=B2.esz∧B1.els.length=B2.els.length∧
  ∀ (i:Nat) (e f:AV),B1.els[i]?=some e→B2.els[i]?=some f→f≠.jk∧Rn d σ c2 H1 e f
theorem rn_cells {d:Nat} {σ:Nat→Nat} {c2:Nat} {H1:List Blk} {x y:AV} (h:Rn d σ c2 H1 x y) (hj:y≠.jk):x.cells.length=y.cells.length∧∀ (i:Nat) (a b:AV),x.cells[i]?=some a→y.cells[i]?=some b→Rn d σ c2 H1 a b:=by
 have one:∀ {a b:AV},Rn d σ c2 H1 a b→a.cells=[a]→b.cells=[b]→a.cells.length=b.cells.length∧∀ (i:Nat) (p q:AV),a.cells[i]?=some p→b.cells[i]?=some q→Rn d σ c2 H1 p q:=by
  intro a b h h1 h2
  rw [h1,h2]
  refine ⟨rfl,fun i p q hp hq=>?_⟩
  cases i with
  | zero=>simp at hp hq; subst hp; subst hq; exact h
  | succ i=>simp at hp
 cases h with
 | nr h=>
  refine ⟨rfl,fun i p q hp hq=>?_⟩
  rw [hp] at hq; cases hq
  refine .nr ?_
  cases x with
  | ag cs=>exact norefs_mem (by simpa [AV.noref,AV.cells] using h) _ (List.mem_of_getElem? hp)
  | _=>
   cases i with
   | zero=>simp [AV.cells] at hp; subst hp; exact h
   | succ i=>simp [AV.cells] at hp
 | jk=>exact absurd rfl hj
 | sl j v lo n B hB hl hv hv2=>exact one (.sl j v lo n B hB hl hv hv2) rfl rfl
 | pt j v i off B hB hl hv hv2=>exact one (.pt j v i off B hB hl hv hv2) rfl rfl
 | ag hl h=>exact ⟨hl,h⟩
 | tu hl h=>exact one (.tu hl h) rfl rfl
theorem rn_vr {w:World} {X:Nat→Prop} {hc hc2:HC} {d:Nat} {σ:Nat→Nat} {c2:Nat} (hcnt:hc2.cnt=c2) (hloc:∀ j,hc2.loc (d+j)=hc.loc (σ j))
  (hH:∀ j B2,hc2.H[d+j]?=some B2→B2.live=true→∃ B1,hc.H[σ j]?=some B1∧B1.live=true∧B1.ty=B2.ty∧B1.esz=B2.esz∧B1.els.length=B2.els.length)
  {x y:AV} {v:Value} (h:Rn d σ c2 hc.H x y) (hv:VR w X (some hc) x v):VR w X (some hc2) y v:=by
 induction h generalizing v with
 | nr h=>exact noref_ok _ h hv.close
 | jk a=>exact .jk
 | sl j u lo n B hB hl hu hv2=>
  cases hv with
  | sl h1 h2=>
   refine .sl h1 fun hc1 e=>?_
   cases e
   obtain ⟨g1,g2⟩:=h2 hc rfl
   refine ⟨by rw [hcnt]; exact hv2,fun B2 e1 e2 e3=>?_⟩
   obtain ⟨B1,k1,k2,k3,k4,k5⟩:=hH j B2 e1 e2
   rw [hB] at k1; cases k1
   obtain ⟨q0,q1⟩:=g2 B hB hl hu
   refine ⟨by omega,?_⟩
   rcases q1 with q1 | ⟨b,base,cap,m,n0,n1,n2,n3,n4,n5⟩
   ·exact .inl q1
   ·exact .inr ⟨b,base,cap,m,by rw [hloc]; exact n0,by rw [n1,k4],n2,n3,by rw [←k3]; exact n4,by rw [←k4]; exact n5⟩
 | pt j u i off B hB hl hu hv2=>
  cases hv with
  | pt h1 h2=>
   refine .pt h1 fun hc1 e=>?_
   cases e
   obtain ⟨g1,g2⟩:=h2 hc rfl
   refine ⟨by rw [hcnt]; exact hv2,fun B2 e1 e2 e3=>?_⟩
   obtain ⟨B1,k1,k2,k3,k4,k5⟩:=hH j B2 e1 e2
   rw [hB] at k1; cases k1
   obtain ⟨b,base,q1,q2⟩:=g2 B hB hl hu
   exact ⟨b,base,by rw [hloc]; exact q1,by rw [q2,k4]⟩
 | @ag cs ds hl h ih=>
  cases hv with
  | ag hl' h1 h2=>
   refine .ag (hl.symm.trans hl') (fun i b u hb hu=>?_) h2
   have hi:i < ds.length:=(List.getElem?_eq_some_iff.1 hb).1
   have hci:=List.getElem?_eq_getElem (l:=cs) (hl ▸ hi)
   exact ih i _ b hci hb (h1 i _ u hci hu)
 | @tu cs ds hl h ih=>
  cases hv with
  | tu hl' h1=>
   refine .tu (hl.symm.trans hl') (fun i b u hb hu=>?_)
   have hi:i < ds.length:=(List.getElem?_eq_some_iff.1 hb).1
   have hci:=List.getElem?_eq_getElem (l:=cs) (hl ▸ hi)
   exact ih i _ b hci hb (h1 i _ u hci hu)
theorem hspecN_of_go {P:Program} {E:Env} (hE:EnvOk P E) (hm:P.follows .mixedOrders=true) {f:FuncId} {fn:Func} {c:Code} {args:List AV} {r2:AV} {H H2:List Blk} {cnt c2:Nat} (σ:Nat→Nat)
  (hf:P.funcs[f]?=some fn) (hb:fn.body=some c) (hn:(fn.name == "runtime.NumGoroutine")=false) (hlex:lexAll E.hb E.perm c=true) (ha:norefs args=true)
  (hσ:∀ i j Bi Bj,H2[i]?=some Bi→H2[j]?=some Bj→Bi.live=true→Bj.live=true→σ i=σ j→i=j) (hc2:cnt≤c2)
  (h:Go P E 0 fn.results.toList (fun r' s'=>Rn H.length σ c2 s'.H r' r2∧RnH H.length σ cnt c2 s'.H H2) [.code c] (initSt fn args [] 0)):HSpec P f args H cnt r2 (H++H2) c2:=by
 refine ⟨⟨fn,hf,hn,by rw [hb]; rfl⟩,fun w X loc cargs hr hv=>?_⟩
 have hva:VL w X (some ⟨fun _=>none,[],0⟩) args cargs.toList:=norefs_ok _ ha ⟨hv.1,fun i a v h1 h2=>(hv.2 i a v h1 h2).close⟩
 have hr0:HR w X ⟨fun _=>none,[],0⟩:=⟨fun id B h1 _=>by simp at h1,fun id id' B B' b o o' h1=>by simp at h1,hr.lt⟩
 refine (calls_of_go hE hm hf hb hlex (H:=[]) (cnt:=0) (R:=fun r' s'=>Rn H.length σ c2 s'.H r' r2∧RnH H.length σ cnt c2 s'.H H2) h w X (fun _=>none) cargs hr0 hva).mono ?_
 rintro e w' ⟨r',s',X',loc',c',rfl,⟨h0,h1⟩,g1,g2,g3⟩
 have hnew:∀ (id:Nat) (B:Blk) (b o:Nat),s'.H[id]?=some B→B.live=true→loc' id=some (b,o)→¬ b < w.heap.size:=by
  intro id B b o e1 e2 e3 hb0
  obtain ⟨B1,o1,k1,_⟩:=g3.fresh id B b o e1 e2 e3 hb0
  simp at k1
 have hkeep:∀ b,b < w.heap.size→w'.heap[b]?=w.heap[b]?:=fun b hb0=>g3.keep b hb0 (by rintro ⟨id,B,o,e1,_⟩; simp at e1)
 obtain ⟨loc2,hloc2⟩:∃ loc2:Nat→Option (Nat × Nat),loc2=fun k=>if k < H.length then loc k else loc' (σ (k - H.length)):=⟨_,rfl⟩
 have l1:∀ k,k < H.length→loc2 k=loc k:=fun k hk=>by rw [hloc2]; simp [hk]
 have l2:∀ k,loc2 (H.length+k)=loc' (σ k):=fun k=>by
  rw [hloc2]; simp only
  rw [if_neg (by omega),Nat.add_sub_cancel_left]
 have hget:∀ (k:Nat) (B:Blk),(H++H2)[k]?=some B→(k < H.length∧H[k]?=some B)∨∃ j,k=H.length+j∧H2[j]?=some B:=by
  intro k B hk
  rw [List.getElem?_append] at hk
  split at hk
  ·rename_i hl; exact .inl ⟨hl,hk⟩
  ·rename_i hl; exact .inr ⟨k - H.length,by omega,(by have:k - H.length=k - H.length:=rfl; exact hk)⟩
 have hbig:Evo w X ⟨loc,H,cnt⟩ w' X' ⟨loc2,H++H2,c2⟩:=by
  refine ⟨g3.os,g3.tape,g3.output,g3.size,fun b hb0 _=>hkeep b hb0,g3.shape,g3.xs,hc2,?_,?_⟩
  ·intro id B' e1 e2 e3
   simp only at e1 e3 ⊢
   have e1':=hget id B' e1
   clear e1
   rcases e1' with ⟨hl,e1⟩ | ⟨j,rfl,e1⟩
   ·exact ⟨B',e1,e2,rfl,l1 id hl,rfl,rfl,rfl⟩
   ·obtain ⟨B1,k1,k2,k3,k4,_⟩:=h1 j B' e1 e2
    omega
  ·intro id B' b o e1 e2 e3 hb0
   simp only at e1 e3 ⊢
   have e1':=hget id B' e1
   clear e1
   rcases e1' with ⟨hl,e1⟩ | ⟨j,rfl,e1⟩
   ·exact ⟨B',o,e1,e2,by rw [←l1 id hl]; exact e3⟩
   ·obtain ⟨B1,k1,k2,_⟩:=h1 j B' e1 e2
    rw [l2] at e3
    exact absurd hb0 (hnew _ B1 b o k1 k2 e3)
 have hblk:∀ j B2,(H++H2)[H.length+j]?=some B2→B2.live=true→∃ B1,s'.H[σ j]?=some B1∧B1.live=true∧B1.ty=B2.ty∧B1.esz=B2.esz∧B1.els.length=B2.els.length:=by
  intro j B2 e1 e2
  rw [List.getElem?_append_right (by omega),Nat.add_sub_cancel_left] at e1
  obtain ⟨B1,k1,k2,k3,k4,k5,k6,k7,_⟩:=h1 j B2 e1 e2
  exact ⟨B1,k1,k2,k5,k6,k7⟩
 have hvr:∀ {x y:AV} {v:Value},Rn H.length σ c2 s'.H x y→VR w' X' (some (s'.hc loc')) x v→VR w' X' (some ⟨loc2,H++H2,c2⟩) y v:=fun hxy hx=>
  rn_vr (hc:=s'.hc loc') (hc2:=⟨loc2,H++H2,c2⟩) (σ:=σ) rfl l2 hblk hxy hx
 refine ⟨X',loc2,c',rfl,?_,hvr h0 g2,hbig⟩
 refine ⟨?_,?_,g1.lt⟩
 ·intro id B e1 e2
  simp only at e1 ⊢
  have e1':=hget id B e1
  clear e1
  rcases e1' with ⟨hl,e1⟩ | ⟨j,rfl,e1⟩
  ·obtain ⟨q1,q2,q3⟩:=hr.blk id B e1 e2
   simp only at q1 q3
   refine ⟨by omega,q2,?_⟩
   rw [l1 id hl]
   split at q3
   ·exact q3
   ·rename_i b base hlc
    obtain ⟨m1,⟨cs,m2⟩,m3⟩:=q3
    have hb0:=hr.lt b m1
    refine ⟨(g3.xs b hb0).2 m1,⟨cs,by rw [hkeep b hb0]; exact m2⟩,fun i e he=>?_⟩
    obtain ⟨n1,n2⟩:=m3 i e he
    refine ⟨n1,fun jj a ha'=>?_⟩
    obtain ⟨c,p1,p2,p3⟩:=n2 jj a ha'
    refine ⟨c,?_,p2,p3.mono hbig hr⟩
    rw [←p1]
    exact World.cell?_of_block (hkeep _ hb0)
  ·obtain ⟨B1,k1,k2,k3,k4,k5,k6,k7,k8⟩:=h1 j B e1 e2
   obtain ⟨q1,q2,q3⟩:=g1.blk (σ j) B1 k1 k2
   simp only [St.hc] at q1 q3
   refine ⟨k4,by omega,?_⟩
   rw [l2]
   split at q3
   ·rw [q3] at k7
    exact List.eq_nil_of_length_eq_zero (by simpa using k7.symm)
   ·rename_i b base hlc
    obtain ⟨m1,⟨cs,m2⟩,m3⟩:=q3
    refine ⟨m1,⟨cs,by rw [←k5]; exact m2⟩,fun i f hf'=>?_⟩
    have hi:i < B.els.length:=(List.getElem?_eq_some_iff.1 hf').1
    have he:=List.getElem?_eq_getElem (l:=B1.els) (i:=i) (by omega)
    obtain ⟨n1,n2⟩:=m3 i _ he
    obtain ⟨hj,hrn⟩:=k8 i _ f he hf'
    obtain ⟨u1,u2⟩:=rn_cells hrn hj
    refine ⟨by rw [←u1,n1,k6],fun jj a ha'=>?_⟩
    have hjj:jj < f.cells.length:=(List.getElem?_eq_some_iff.1 ha').1
    have hx:=List.getElem?_eq_getElem (l:=(B1.els[i]'(by omega)).cells) (i:=jj) (by omega)
    obtain ⟨c,p1,p2,p3⟩:=n2 jj _ hx
    exact ⟨c,by rw [←k6]; exact p1,p2,hvr (u2 jj _ a hx ha') p3⟩
 ·intro id id' B B' b o o' e1 e2 e3 e4 e5 e6
  simp only at e1 e2 e5 e6
  have e1':=hget id B e1
  clear e1
  rcases e1' with ⟨hl,e1⟩ | ⟨j,rfl,e1⟩
  ·rw [l1 id hl] at e5
   have e2':=hget id' B' e2
   clear e2
   rcases e2' with ⟨hl',e2⟩ | ⟨j',rfl,e2⟩
   ·rw [l1 id' hl'] at e6
    exact hr.inj id id' B B' b o o' e1 e2 e3 e4 e5 e6
   ·rw [l2] at e6
    obtain ⟨B1,k1,k2,_⟩:=h1 j' B' e2 e4
    have:=(hr.blk id B e1 e3).2.2
    simp only [e5] at this
    exact absurd (hr.lt b this.1) (hnew _ B1 b o' k1 k2 e6)
  ·rw [l2] at e5
   obtain ⟨B1,k1,k2,_⟩:=h1 j B e1 e3
   have e2':=hget id' B' e2
   clear e2
   rcases e2' with ⟨hl',e2⟩ | ⟨j',rfl,e2⟩
   ·rw [l1 id' hl'] at e6
    have:=(hr.blk id' B' e2 e4).2.2
    simp only [e6] at this
    exact absurd (hr.lt b this.1) (hnew _ B1 b o k1 k2 e5)
   ·rw [l2] at e6
    obtain ⟨B1',k1',k2',_⟩:=h1 j' B' e2 e4
    have:=g1.inj (σ j) (σ j') B1 B1' b o o' k1 k1' k2 k2' e5 e6
    rw [hσ j j' B B' e1 e2 e3 e4 this]
theorem go_rn {P:Program} {E:Env} {rs:List ResultVar} {R:AV→St→Prop} {k:List Item} {T T':List AV} {H H2:List Blk} {c c2:Nat} (σ:Nat→Nat) (hT:RnL 0 σ c2 H T T') (hH:RnH 0 σ c c2 H H2)
  (hσ:∀ i j Bi Bj,H2[i]?=some Bi→H2[j]?=some Bj→Bi.live=true→Bj.live=true→σ i=σ j→i=j) (hc:c≤c2) (h:Go P E 0 rs R k ⟨T',H2,c2⟩):Go P E 0 rs R k ⟨T,H,c⟩:=
 .ghost (s':=⟨T',H2,c2⟩) (fun w X loc act hs=>by
  obtain ⟨hr,tm,df⟩:=hs
  simp only [St.hc] at hr tm
  have l2:∀ j,(fun j=>loc (σ j)) (0+j)=loc (σ j):=fun j=>by simp
  have hblk:∀ j B2,H2[0+j]?=some B2→B2.live=true→∃ B1,H[σ j]?=some B1∧B1.live=true∧B1.ty=B2.ty∧B1.esz=B2.esz∧B1.els.length=B2.els.length:=by
   intro j B2 e1 e2
   rw [Nat.zero_add] at e1
   obtain ⟨B1,k1,k2,k3,k4,k5,k6,k7,_⟩:=hH j B2 e1 e2
   exact ⟨B1,k1,k2,k5,k6,k7⟩
  have hvr:∀ {x y:AV} {v:Value},Rn 0 σ c2 H x y→VR w X (some ⟨loc,H,c⟩) x v→VR w X (some ⟨fun j=>loc (σ j),H2,c2⟩) y v:=fun hxy hx=>
   rn_vr (hc:=⟨loc,H,c⟩) (hc2:=⟨fun j=>loc (σ j),H2,c2⟩) (σ:=σ) rfl l2 hblk hxy hx
  obtain ⟨t1,t2⟩:=rnL_get hT
  refine ⟨X,fun j=>loc (σ j),⟨⟨?_,?_,hr.lt⟩,⟨t1.symm.trans tm.1,fun i b v hb hv=>?_⟩,df⟩,fun w0 X0 hc0 hn he=>?_⟩
  ·intro j B e1 e2
   simp only [St.hc] at e1 ⊢
   obtain ⟨B1,k1,k2,k3,k4,k5,k6,k7,k8⟩:=hH j B e1 e2
   obtain ⟨q1,q2,q3⟩:=hr.blk (σ j) B1 k1 k2
   simp only at q1 q3
   refine ⟨k4,by omega,?_⟩
   split at q3
   ·rw [q3] at k7
    exact List.eq_nil_of_length_eq_zero (by simpa using k7.symm)
   ·rename_i b base hlc
    obtain ⟨m1,⟨cs,m2⟩,m3⟩:=q3
    refine ⟨m1,⟨cs,by rw [←k5]; exact m2⟩,fun i f hf'=>?_⟩
    have hi:i < B.els.length:=(List.getElem?_eq_some_iff.1 hf').1
    have he:=List.getElem?_eq_getElem (l:=B1.els) (i:=i) (by omega)
    obtain ⟨n1,n2⟩:=m3 i _ he
    obtain ⟨hj,hrn⟩:=k8 i _ f he hf'
    obtain ⟨u1,u2⟩:=rn_cells hrn hj
    refine ⟨by rw [←u1,n1,k6],fun jj a ha'=>?_⟩
    have hjj:jj < f.cells.length:=(List.getElem?_eq_some_iff.1 ha').1
    have hx:=List.getElem?_eq_getElem (l:=(B1.els[i]'(by omega)).cells) (i:=jj) (by omega)
    obtain ⟨c,p1,p2,p3⟩:=n2 jj _ hx
    exact ⟨c,by rw [←k6]; exact p1,p2,hvr (u2 jj _ a hx ha') p3⟩
  ·intro id id' B B' b o o' e1 e2 e3 e4 e5 e6
   simp only [St.hc] at e1 e2 e5 e6
   obtain ⟨B1,k1,k2,_⟩:=hH id B e1 e3
   obtain ⟨B1',k1',k2',_⟩:=hH id' B' e2 e4
   exact hσ id id' B B' e1 e2 e3 e4 (hr.inj (σ id) (σ id') B1 B1' b o o' k1 k1' k2 k2' e5 e6)
  ·have hi:i < T'.length:=(List.getElem?_eq_some_iff.1 hb).1
   have hx:=List.getElem?_eq_getElem (l:=T) (i:=i) (by omega)
   exact hvr (t2 i _ b hx hb) (tm.2 i _ v hx hv)
  ·have h0:∀ (i:Nat) (B:Blk),hc0.H[i]?=some B→False:=fun i B hh=>by
    have:=(List.getElem?_eq_some_iff.1 hh).1
    omega
   have hcn:hc0.cnt≤c:=he.cnt
   refine ⟨he.os,he.tape,he.output,he.size,he.keep,he.shape,he.xs,Nat.le_trans hcn hc,?_,?_⟩
   ·intro id B' e1 e2 e3
    obtain ⟨B1,k1,k2,k3,k4,_⟩:=hH id B' e1 e2
    omega
   ·intro id B' b o e1 e2 e3 hb0
    simp only [St.hc] at e1 e3
    obtain ⟨B1,k1,k2,_⟩:=hH id B' e1 e2
    obtain ⟨B,o',g1,_⟩:=he.fresh (σ id) B1 b o k1 k2 e3 hb0
    exact (h0 _ _ g1).elim) h
theorem fspec_of_h {P:Program} {f:FuncId} {args:List AV} {r r':AV} {H':List Blk} {c':Nat} (hn:r.noref=true) (h:HSpec P f args [] 0 r' H' c') (h0:WkV [] (borrow H' r') r) (hfr:r'.freshIn H'=true):FSpec P f args r:=by
 refine ⟨h.1,hn,fun w cargs hv=>?_⟩
 refine (h.2 w noX (fun _=>none) cargs (hr0 w) hv).mono ?_
 rintro e w' ⟨X',loc',c,rfl,g1,g2,g3⟩
 have hown:∀ b,Own ⟨loc',H',c'⟩ b→¬ b < w.heap.size:=by
  rintro b ⟨id,B,o,e1,e2,e3⟩ hb0
  obtain ⟨B1,o1,k1,_⟩:=g3.fresh id B b o e1 e2 e3 hb0
  simp at k1
 refine ⟨c,rfl,wkV_ok (hc:=hc0) h0 (borrowF_ok g1 hown _ hfr g2),g3.os,g3.tape,g3.output,g3.size,fun k hk=>g3.keep k hk ?_⟩
 rintro ⟨id,B,o,h1,_⟩
 simp at h1
end Go.SX

namespace Go.SX
set_option linter.unusedSimpArgs false
set_option linter.unusedVariables false
structure ES where
 T:Tr AV
 n:Nat
 H:Tr Blk
 hn:Nat
 cnt:Nat
def ES.toS (σ:ES):St:=⟨σ.T.toL .un σ.n,σ.H.toL dead σ.hn,σ.cnt⟩
def ES.Inv (σ:ES):Prop:=Tr.Fit σ.H σ.hn
noncomputable def evE (σ:ES):Operand→AV
 | .tmp t=>match Nat.blt t σ.n with
  | true=>Tr.getP .un (pth t) σ.T
  | false=>.un
 | .const v=>ofV v
 | .global _=>.jk
 | .func f=>.fn f []
noncomputable def gE (σ:ES) (id:Nat):Option Blk:=
 match Nat.blt id σ.hn with
 | true=>some (Tr.getN dead σ.H id)
 | false=>none
def frc:AV→Option AV
 | .sc v=>match v with
  | .int k n=>match n with
   | .ofNat m=>match m with
    | 0=>some (.sc (.int k (.ofNat 0)))
    | m+1=>some (.sc (.int k (.ofNat (m+1))))
   | .negSucc m=>match m with
    | 0=>some (.sc (.int k (.negSucc 0)))
    | m+1=>some (.sc (.int k (.negSucc (m+1))))
  | .bool b=>match b with
   | true=>some (.sc (.bool true))
   | false=>some (.sc (.bool false))
  | v=>some (.sc v)
 | a=>some a
theorem frc_eq {a b:AV} (h:frc a=some b):b=a:=by
 unfold frc at h
 repeat' split at h
 all_goals (cases h; rfl)
noncomputable def putE (σ:ES) (d:Option Nat) (v:AV):Option ES:=
 match d with
 | none=>some σ
 | some d=>match frc v with
  | some v=>match Tr.setP v (pth d) σ.T with
   | some T'=>some ⟨T',σ.n,σ.H,σ.hn,σ.cnt⟩
   | none=>none
  | none=>none
theorem blt_eq (a b:Nat):Nat.blt a b=decide (a < b):=by
 cases h:Nat.blt a b with
 | true=>rw [Nat.blt_eq] at h; simp [h]
 | false=>
  symm
  rw [decide_eq_false_iff_not]
  intro h'
  rw [←Nat.blt_eq] at h'
  rw [h'] at h; cases h
theorem evE_eq (σ:ES):evE σ=ev σ.toS.T:=by
 funext x
 cases x with
 | tmp t=>
  simp only [evE,ev,Tr.getP_eq,ES.toS,List.getD_eq_getElem?_getD,Tr.toL_get,blt_eq]
  by_cases h:t < σ.n
  ·simp [h]
  ·simp [h]
 | _=>rfl
theorem gE_eq (σ:ES):gE σ=fun i=>σ.toS.H[i]?:=by
 funext i
 simp only [gE,Tr.getN_eq,ES.toS,Tr.toL_get,blt_eq]
 by_cases h:i < σ.hn
 ·simp [h]
 ·simp [h]
theorem liveE_eq (σ:ES):liveG (gE σ)=liveB σ.toS.H:=by
 funext id ver
 rw [gE_eq,liveG_eq]
theorem hn_eq (σ:ES):σ.toS.H.length=σ.hn:=Tr.toL_len _ _ _
theorem putE_ok {σ σ':ES} {d:Option Nat} {v:AV} (hi:σ.Inv) (h:putE σ d v=some σ'):σ'.Inv∧σ.toS.put d v=σ'.toS∧σ'.n=σ.n∧σ'.H=σ.H∧σ'.hn=σ.hn:=by
 unfold putE at h
 split at h
 ·cases h; exact ⟨hi,rfl,rfl,rfl,rfl⟩
 ·split at h
  ·rename_i d v' hv
   have hv:=frc_eq hv
   subst hv
   split at h
   ·rename_i T' hT
    rw [Tr.setP_eq] at hT
    cases h
    refine ⟨hi,?_,rfl,rfl,rfl⟩
    simp only [St.put,ES.toS,Tr.toL_set hT]
   ·cases h
  ·cases h
structure EE where
 isP:Nat→Bool
 isV:Nat→Bool
 pc:Nat→List AV→Option AV
 vc:Nat→List AV→Option AV
 hc:Nat→List AV→Tr Blk→Nat→Nat→Option (AV × Tr Blk × Nat × Nat)
 lit:Bool
 perm:Nat→Option (List Nat)
 hcl:Nat→Bool
def EE.hb (E:EE) (g:Nat):Bool:=E.hcl g && !E.isP g
def hcL (hc:Nat→List AV→Tr Blk→Nat→Nat→Option (AV × Tr Blk × Nat × Nat)) (f:Nat) (args:List AV) (H:List Blk) (cnt:Nat):Option (AV × List Blk × Nat):=
 match hc f args (Tr.ofL dead H) H.length cnt with
 | some (r,H',n',c')=>some (r,H'.toL dead n',c')
 | none=>none
def EE.vb (E:EE) (g:Nat):Bool:=E.isV g && !E.isP g
def EE.hcall (E:EE) (g:Nat) (args:List AV) (H:List Blk) (cnt:Nat):Option (AV × List Blk × Nat):=
 match E.isV g with
 | true=>hcV H cnt (norefs args) (E.vc g args)
 | false=>hcL E.hc g args H cnt
def EE.env (E:EE):Env:=⟨E.isP,E.pc,E.hcall,E.lit,E.perm,E.hcl⟩
theorem vEnvE (E:EE):VEnv E.env E.vb:=by
 intro g hg
 simp only [EE.vb,Bool.and_eq_true] at hg
 refine ⟨by simpa [EE.env] using hg.2,fun args=>match norefs args with | true=>E.vc g args | false=>none,fun args H cnt=>?_⟩
 show EE.hcall E g args H cnt=_
 unfold EE.hcall
 rw [hg.1]
 simp only
 cases norefs args with
 | true=>cases E.vc g args <;> rfl
 | false=>cases E.vc g args <;> rfl
def EE.Ok (E:EE):Prop:=∀ f args H n c r H' n' c',Tr.Fit H n→E.hc f args H n c=some (r,H',n',c')→Tr.Fit H' n'
def targetE (φ:Operand→AV) (o:Op):Option (Nat × List AV):=
 match o with
 | .call { callee:=.value f,args,.. }=>match φ f with
  | .fn g caps=>some (g,args.toList.map φ++caps)
  | _=>none
 | _=>none
theorem targetE_eq (s:St) (o:Op):targetE (ev s.T) o=target s o:=rfl
def popT (p:Bool) (H:Tr Blk) (n:Nat):Option (Tr Blk):=
 match p with
 | false=>some H
 | true=>match n with
  | 0=>none
  | k+1=>H.pop k
noncomputable def heapE (P:Program) (σ:ES) (o:Op) (dst:Option Nat):Option ES:=
 match hactE P (evE σ) (gE σ) σ.hn σ.cnt o with
 | some (v,p,a,c)=>match popT p σ.H σ.hn with
  | some H1=>match a with
   | .push b=>match H1.push (popN p σ.hn) b with
    | some H2=>putE ⟨σ.T,σ.n,H2,popN p σ.hn+1,c⟩ dst v
    | none=>none
   | .put id b=>match Tr.setN b H1 id with
    | some H2=>putE ⟨σ.T,σ.n,H2,popN p σ.hn,c⟩ dst v
    | none=>none
  | none=>none
 | none=>none
noncomputable def litE (P:Program) (σ:ES) (o:Op) (dst:Option Nat):Option ES:=
 match hactE P (evE σ) (gE σ) σ.hn σ.cnt o with
 | some (v,false,.push b,c)=>match norefs b.els with
  | true=>putE ⟨σ.T,σ.n,σ.H,σ.hn,σ.cnt+1⟩ dst (.vw false b.els)
  | false=>none
 | _=>none
noncomputable def callE (E:EE) (σ:ES) (g:Nat) (args:List AV) (dst:Option Nat):Option ES:=
 match E.isP g with
 | true=>match E.pc g (borGs (gE σ) args) with
  | some r=>putE σ dst r
  | none=>none
 | false=>match E.isV g with
  | true=>match norefs args with
   | true=>match E.vc g args with
    | some r=>putE σ dst r
    | none=>none
   | false=>none
  | false=>match E.hc g args σ.H σ.hn σ.cnt with
   | some (r,H',n',c')=>putE ⟨σ.T,σ.n,H',n',c'⟩ dst r
   | none=>none
noncomputable def coreE (P:Program) (E:EE) (σ:ES) (o:Oper) (lt:Bool):Option ES:=
 match isCall o.op with
 | true=>match targetE (evE σ) o.op with
  | some (g,args)=>callE E σ g args o.dst
  | none=>none
 | false=>match isHeapOp o.op with
  | true=>match lt && litOp o.op with
   | true=>litE P σ o.op o.dst
   | false=>heapE P σ o.op o.dst
  | false=>match rvalF P (evE σ) (liveG (gE σ)) o.op with
   | some v=>putE σ o.dst v
   | none=>none
noncomputable def gvE (all:Array Oper) (σ:ES) (j:Nat):AV:=
 match (all[j]?).bind (·.dst) with
 | some d=>evE σ (.tmp d)
 | none=>.un
noncomputable def opE (P:Program) (E:EE) (all:Array Oper) (σ:ES) (o:Oper) (lt:Bool):Option ES:=
 match o.guard with
 | none=>coreE P E σ o lt
 | some (j,want)=>match gvE all σ j with
  | .sc (.bool b)=>match b == want with
   | true=>coreE P E σ o false
   | false=>putE σ o.dst .un
  | .un=>putE σ o.dst .un
  | _=>none
theorem popT_ok {p:Bool} {H H1:Tr Blk} {n:Nat} (hf:Tr.Fit H n) (h:popT p H n=some H1):Tr.Fit H1 (popN p n)∧H1.toL dead (popN p n)=popH p (H.toL dead n):=by
 cases p with
 | false=>simp only [popT,Option.some.injEq] at h; subst h; exact ⟨hf,rfl⟩
 | true=>
  cases n with
  | zero=>simp [popT] at h
  | succ k=>
   simp only [popT] at h
   refine ⟨(Tr.pop_ok dead hf h).2,?_⟩
   show H1.toL dead k=(H.toL dead (k+1)).dropLast
   rw [Tr.toL_pop hf h,List.dropLast_eq_take,Tr.toL_len]
   rfl
theorem heapE_ok {P:Program} {σ σ':ES} {o:Op} {dst:Option Nat} (hi:σ.Inv) (h:heapE P σ o dst=some σ'):σ'.Inv∧hstep P σ.toS o dst=some σ'.toS∧σ'.n=σ.n:=by
 unfold heapE at h
 split at h
 ·rename_i v p a c hr
  rw [evE_eq,gE_eq,←hn_eq] at hr
  have hs:=hact_eq P σ.toS o dst hr
  split at h
  ·rename_i H1 h1
   obtain ⟨f1,f2⟩:=popT_ok hi h1
   split at h
   ·rename_i b
    split at h
    ·rename_i H2 h2
     obtain ⟨q1,q2,q3,_⟩:=putE_ok (σ:=⟨σ.T,σ.n,H2,popN p σ.hn+1,c⟩) (Tr.push_ok dead b f1 h2).2 h
     refine ⟨q1,?_,q3⟩
     rw [hs,←q2]
     simp only [putR,appH]
     congr 2
     show _=(ES.toS _)
     simp only [ES.toS,Tr.toL_push f1 h2,f2]
    ·cases h
   ·rename_i id b
    split at h
    ·rename_i H2 h2
     rw [Tr.setN_eq] at h2
     obtain ⟨q1,q2,q3,_⟩:=putE_ok (σ:=⟨σ.T,σ.n,H2,popN p σ.hn,c⟩) ((Tr.set_ok dead b h2).2 _ f1) h
     refine ⟨q1,?_,q3⟩
     rw [hs,←q2]
     simp only [putR,appH]
     congr 2
     show _=(ES.toS _)
     simp only [ES.toS,Tr.toL_set h2,f2]
    ·cases h
  ·cases h
 ·cases h
theorem litE_ok {P:Program} {σ σ':ES} {o:Op} {dst:Option Nat} (hi:σ.Inv) (h:litE P σ o dst=some σ'):σ'.Inv∧litStep P σ.toS o dst=some σ'.toS∧σ'.n=σ.n:=by
 unfold litE at h
 split at h
 ·rename_i v b c hr
  rw [evE_eq,gE_eq,←hn_eq] at hr
  have hs:=hact_eq P σ.toS o dst hr
  split at h
  ·rename_i hnr
   obtain ⟨q1,q2,q3,_⟩:=putE_ok (σ:=⟨σ.T,σ.n,σ.H,σ.hn,σ.cnt+1⟩) hi h
   refine ⟨q1,?_,q3⟩
   unfold litStep
   rw [hs]
   have e:(St.put ⟨σ.toS.T,appH σ.toS.H false (.push b),c⟩ dst v).H=σ.toS.H++[b]:=by cases dst <;> rfl
   simp only [putR,litR,e,lastEls_append,hnr,if_true]
   rw [←q2]
   rfl
  ·cases h
 ·cases h
def coreS (P:Program) (E:Env) (s:St) (o:Oper) (lt:Bool):Option St:=
 if (lt && litOp o.op)=true then litStep P s o.op o.dst else if isPure E s o.op=true then (pval P E s o.op).map (s.put o.dst) else hval P E s o
theorem lit_heap {o:Op} (h:litOp o=true):isHeapOp o=true∧isCall o=false:=by
 cases o <;> simp_all [litOp,isHeapOp,isCall]
theorem call_lit {o:Op} (h:isCall o=true):litOp o=false:=by
 cases hq:litOp o with
 | false=>rfl
 | true=>rw [(lit_heap hq).2] at h; cases h
theorem coreE_ok {P:Program} {E:EE} (hE:E.Ok) {σ σ':ES} {o:Oper} {lt:Bool} (hi:σ.Inv) (h:coreE P E σ o lt=some σ'):σ'.Inv∧coreS P E.env σ.toS o lt=some σ'.toS∧σ'.n=σ.n:=by
 unfold coreE at h
 unfold coreS
 split at h
 ·rename_i hcall
  rw [call_lit hcall,Bool.and_false,if_neg (by decide)]
  split at h
  ·rename_i g args ht
   rw [evE_eq,targetE_eq] at ht
   unfold callE at h
   split at h
   ·rename_i hp
    have hpure:isPure E.env σ.toS o.op=true:=by
     unfold isPure
     rw [hcall,if_pos rfl,ht]
     exact hp
    rw [if_pos hpure]
    split at h
    ·rename_i r hr
     obtain ⟨q1,q2,q3,_⟩:=putE_ok hi h
     refine ⟨q1,?_,q3⟩
     unfold pval
     rw [hcall,if_pos rfl,ht]
     simp only
     rw [gE_eq,borGs_eq] at hr
     rw [←borrows_map]
     show Option.map _ (E.pc g (borrows σ.toS.H args))=_
     rw [hr,Option.map_some,q2]
    ·cases h
   ·rename_i hp
    have hpure:¬ isPure E.env σ.toS o.op=true:=by
     unfold isPure
     rw [hcall,if_pos rfl,ht]
     show ¬ E.isP g=true
     rw [hp]; decide
    rw [if_neg hpure]
    split at h
    ·rename_i hv
     split at h
     ·rename_i hnr
      split at h
      ·rename_i r hr
       obtain ⟨q1,q2,q3,_⟩:=putE_ok hi h
       refine ⟨q1,?_,q3⟩
       unfold hval
       rw [hcall,if_pos rfl,ht]
       simp only
       have e:E.env.hcall g args σ.toS.H σ.toS.cnt=some (r,σ.toS.H,σ.toS.cnt):=by
        show EE.hcall E g args σ.toS.H σ.toS.cnt=_
        unfold EE.hcall
        rw [hv,hnr,hr]
        rfl
       rw [e]
       simp only
       rw [←q2]
      ·cases h
     ·cases h
    ·rename_i hv
     split at h
     ·rename_i r H' n' c' hr
      have hf':Tr.Fit H' n':=hE _ _ _ _ _ _ _ _ _ hi hr
      obtain ⟨q1,q2,q3,_⟩:=putE_ok (σ:=⟨σ.T,σ.n,H',n',c'⟩) hf' h
      refine ⟨q1,?_,q3⟩
      unfold hval
      rw [hcall,if_pos rfl,ht]
      simp only
      have e:E.env.hcall g args σ.toS.H σ.toS.cnt=some (r,H'.toL dead n',c'):=by
       show EE.hcall E g args σ.toS.H σ.toS.cnt=_
       unfold EE.hcall
       rw [hv]
       simp only
       unfold hcL
       rw [hn_eq]
       show (match E.hc g args (Tr.ofL dead (σ.H.toL dead σ.hn)) σ.hn σ.cnt with | some (r,H',n',c')=>some (r,H'.toL dead n',c') | none=>none)=_
       rw [Tr.ofL_toL dead hi,hr]
      rw [e]
      simp only
      rw [←q2]
      rfl
     ·cases h
  ·cases h
 ·rename_i hcall
  split at h
  ·rename_i hheap
   have hpure:¬ isPure E.env σ.toS o.op=true:=by
    unfold isPure
    rw [hcall,if_neg (by decide),hheap]; decide
   split at h
   ·rename_i hl
    rw [if_pos hl]
    exact litE_ok hi h
   ·rename_i hl
    rw [if_neg (by rw [hl]; decide),if_neg hpure]
    obtain ⟨q1,q2,q3⟩:=heapE_ok hi h
    refine ⟨q1,?_,q3⟩
    unfold hval
    rw [hcall,if_neg (by decide)]
    exact q2
  ·rename_i hheap
   have hl:(lt && litOp o.op)=false:=by
    cases hq:litOp o.op with
    | false=>rw [Bool.and_false]
    | true=>rw [(lit_heap hq).1] at hheap; cases hheap
   have hpure:isPure E.env σ.toS o.op=true:=by
    unfold isPure
    rw [hcall,if_neg (by decide),hheap]; rfl
   rw [if_neg (by rw [hl]; decide),if_pos hpure]
   split at h
   ·rename_i v hv
    rw [evE_eq,liveE_eq] at hv
    have hv:=rvalF_ok hv
    obtain ⟨q1,q2,q3,_⟩:=putE_ok hi h
    refine ⟨q1,?_,q3⟩
    unfold pval
    rw [hcall,if_neg (by decide),hv,Option.map_some,q2]
   ·cases h
theorem gvE_eq (all:Array Oper) (σ:ES) (j:Nat):gvE all σ j=guardV all σ.toS j:=by
 unfold gvE guardV
 rw [evE_eq]
 rfl
theorem opE_ok {P:Program} {E:EE} (hE:E.Ok) {all:Array Oper} {σ σ':ES} {o:Oper} {lt:Bool} (hi:σ.Inv) (h:opE P E all σ o lt=some σ'):
  σ'.Inv∧opM lt o (opStep P E.env all σ.toS o) (litStep P σ.toS o.op o.dst)=some σ'.toS∧σ'.n=σ.n:=by
 unfold opE at h
 unfold opM
 split at h
 ·rename_i hg
  obtain ⟨q1,q2,q3⟩:=coreE_ok hE hi h
  refine ⟨q1,?_,q3⟩
  rw [←q2]
  unfold coreS opStep
  simp only [hg,Option.isNone_none,Bool.and_true]
 ·rename_i j want hg
  have hn:(lt && litOp o.op && o.guard.isNone)=false:=by rw [hg]; simp
  rw [hn,if_neg (by decide)]
  rw [gvE_eq] at h
  unfold opStep
  simp only [hg]
  split at h
  ·rename_i b hb
   rw [hb]
   simp only
   split at h
   ·rename_i hbw
    have hbw:b=want:=eq_of_beq hbw
    obtain ⟨q1,q2,q3⟩:=coreE_ok hE hi h
    refine ⟨q1,?_,q3⟩
    rw [←q2]
    unfold coreS
    simp only [Bool.false_and,if_pos hbw]
    rfl
   ·rename_i hbw
    have hbw:¬ b=want:=fun e=>by rw [e] at hbw; simp at hbw
    obtain ⟨q1,q2,q3,_⟩:=putE_ok hi h
    refine ⟨q1,?_,q3⟩
    simp only [if_neg hbw,Option.map_some,q2]
    split <;> rfl
  ·rename_i hb
   rw [hb]
   obtain ⟨q1,q2,q3,_⟩:=putE_ok hi h
   exact ⟨q1,by simp only [q2],q3⟩
  ·cases h
end Go.SX
