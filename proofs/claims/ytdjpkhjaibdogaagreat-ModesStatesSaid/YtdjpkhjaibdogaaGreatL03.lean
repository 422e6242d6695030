/-
  Joined texts: SX3.
  Conditions: none.
-/
import Derived.Test.YtdjpkhjaibdogaaGreatL02
namespace Go.SX
set_option linter.unusedSimpArgs false
set_option linter.unusedVariables false
open Go.RowKit (Below)
def VL (w:World) (X:Nat→Prop) (o:Option HC) (as:List AV) (vs:List Value):Prop:=
 as.length=vs.length∧∀ (i:Nat) (a:AV) (v:Value),as[i]?=some a→vs[i]?=some v→VR w X o a v
section
variable {w:World} {X:Nat→Prop} {o:Option HC}
theorem VL.nil:VL w X o [] []:=⟨rfl,fun i a v h=>by simp at h⟩
theorem VL.cons {a v as vs} (h:VR w X o a v) (hs:VL w X o as vs):VL w X o (a::as) (v::vs):=by
 refine ⟨by simp [hs.1],fun i b u hb hu=>?_⟩
 cases i with
 | zero=>simp at hb hu; subst hb; subst hu; exact h
 | succ i=>simp at hb hu; exact hs.2 i b u hb hu
theorem VL.head {a v as vs} (h:VL w X o (a::as) (v::vs)):VR w X o a v:=h.2 0 a v rfl rfl
theorem VL.tail {a v as vs} (h:VL w X o (a::as) (v::vs)):VL w X o as vs:=
 ⟨by simpa using h.1,fun i b u hb hu=>h.2 (i+1) b u (by simpa using hb) (by simpa using hu)⟩
theorem VL.uncons {a as l} (h:VL w X o (a::as) l):∃ v vs,l=v::vs∧VR w X o a v∧VL w X o as vs:=by
 cases l with
 | nil=>simp [VL] at h
 | cons v vs=>exact ⟨v,vs,rfl,h.head,h.tail⟩
theorem VL.unnil {l} (h:VL w X o [] l):l=[]:=by
 cases l with
 | nil=>rfl
 | cons v vs=>simp [VL] at h
theorem VL.append {as vs bs us} (h:VL w X o as vs) (k:VL w X o bs us):VL w X o (as++bs) (vs++us):=by
 refine ⟨by simp [h.1,k.1],fun i b u hb hu=>?_⟩
 rw [List.getElem?_append] at hb hu
 rw [h.1] at hb
 split at hb
 ·rename_i hi; rw [if_pos hi] at hu; exact h.2 i b u hb hu
 ·rename_i hi; rw [if_neg hi] at hu; exact k.2 _ b u hb hu
theorem VL.take {as vs} (n:Nat) (h:VL w X o as vs):VL w X o (as.take n) (vs.take n):=by
 refine ⟨by simp [h.1],fun i b u hb hu=>?_⟩
 rw [List.getElem?_take] at hb hu
 split at hb
 ·rename_i hi; rw [if_pos hi] at hu; exact h.2 i b u hb hu
 ·cases hb
theorem VL.drop {as vs} (n:Nat) (h:VL w X o as vs):VL w X o (as.drop n) (vs.drop n):=by
 refine ⟨by simp [h.1],fun i b u hb hu=>?_⟩
 rw [List.getElem?_drop] at hb hu
 exact h.2 _ b u hb hu
theorem VL.set {as vs a v} (n:Nat) (h:VL w X o as vs) (hv:VR w X o a v):VL w X o (as.set n a) (vs.set n v):=by
 refine ⟨by simp [h.1],fun i b u hb hu=>?_⟩
 rw [List.getElem?_set] at hb hu
 rw [h.1] at hb
 split at hb
 ·rename_i hi
  rw [if_pos hi] at hu
  split at hb
  ·rename_i hl
   rw [if_pos hl] at hu
   simp at hb hu; subst hb; subst hu; exact hv
  ·cases hb
 ·rename_i hi; rw [if_neg hi] at hu; exact h.2 i b u hb hu
theorem VL.get {as vs} (h:VL w X o as vs) {i:Nat} {a:AV} (ha:as[i]?=some a):∃ v,vs[i]?=some v∧VR w X o a v:=by
 have hi:i < as.length:=(List.getElem?_eq_some_iff.1 ha).1
 rw [h.1] at hi
 exact ⟨vs[i],by simp [hi],h.2 i a _ ha (by simp [hi])⟩
theorem VL.map_av {α:Type} {l:List α} {f:α→AV} {g:α→Value} (h:∀ x ∈ l,VR w X o (f x) (g x)):VL w X o (l.map f) (l.map g):=by
 refine ⟨by simp,fun i a v ha hv=>?_⟩
 simp only [List.getElem?_map,Option.map_eq_some_iff] at ha hv
 obtain ⟨x,hx,rfl⟩:=ha
 obtain ⟨y,hy,rfl⟩:=hv
 rw [hx] at hy; cases hy
 exact h x (List.mem_of_getElem? hx)
end
mutual
theorem conc_eq {w X o}:∀ (a:AV) {u v:Value},conc a=some u→VR w X o a v→v=u
 | .sc x,u,v,h,hv=>by cases hv; simpa [conc] using h
 | .ag cs,u,v,h,hv=>by
  cases hv with
  | ag hl h1 h2=>
   simp only [conc,Option.map_eq_some_iff] at h
   obtain ⟨l,hl',rfl⟩:=h
   rw [concs_eq cs hl' ⟨hl,h1⟩]
 | .tu cs,u,v,h,hv=>by
  cases hv with
  | tu hl h1=>
   simp only [conc,Option.map_eq_some_iff] at h
   obtain ⟨l,hl',rfl⟩:=h
   rw [concs_eq cs hl' ⟨hl,h1⟩]
 | .pt ..,_,_,h,_=>by simp [conc] at h
 | .sl ..,_,_,h,_=>by simp [conc] at h
 | .vw ..,_,_,h,_=>by simp [conc] at h
 | .vp ..,_,_,h,_=>by simp [conc] at h
 | .fn ..,_,_,h,_=>by simp [conc] at h
 | .un,_,_,h,_=>by simp [conc] at h
 | .jk,_,_,h,_=>by simp [conc] at h
theorem concs_eq {w X o}:∀ (as:List AV) {us vs:List Value},concs as=some us→VL w X o as vs→vs=us
 | [],us,vs,h,hv=>by simp [concs] at h; rw [hv.unnil,h]
 | a::r,us,vs,h,hv=>by
  obtain ⟨v,vs',rfl,hv1,hv2⟩:=hv.uncons
  simp only [concs] at h
  split at h
  ·rename_i x l hx hl
   simp only [Option.some.injEq] at h
   rw [←h,conc_eq a hx hv1,concs_eq r hl hv2]
  ·cases h
end
theorem ofCell_ok {w X o} (v:Value):VR w X o (ofCell v) v:=by
 unfold ofCell
 split
 ·exact .vw0 (fun _=>rfl) (Nat.zero_le _)
 ·split
  ·rename_i f first cap h
   simp only [Bool.and_eq_true,Array.isEmpty_iff] at h
   obtain ⟨rfl,rfl⟩:=h
   exact .fn (vs:=[]) rfl (fun i a v h=>by simp at h)
  ·exact .sc rfl
 ·exact .jk
 ·exact .jk
 ·rename_i h1 h2 h3 h4
  refine .sc ?_
  cases v <;> first | rfl | exact absurd rfl (h3 _) | exact absurd rfl (h4 _)
theorem ofAgg_ok {w X o} (v:Value):VR w X o (ofAgg v) v:=by
 unfold ofAgg
 split
 ·rename_i cs
  split
  ·rename_i h
   have:=VR.ag (w:=w) (X:=X) (o:=o) (cs:=cs.toList.map ofCell) (vs:=cs.toList) (by simp) ?_ ?_
   ·simpa using this
   ·intro i a v ha hv
    simp only [List.getElem?_map,Option.map_eq_some_iff] at ha
    obtain ⟨x,hx,rfl⟩:=ha
    rw [hv] at hx; cases hx
    exact ofCell_ok v
   ·intro v hv
    exact List.all_eq_true.1 h v hv
  ·exact .jk
 ·exact ofCell_ok v
theorem ofV_ok {w X o} (v:Value):VR w X o (ofV v) v:=by
 unfold ofV
 split
 ·rename_i vs
  split
  ·rename_i h
   rw [Array.isEmpty_iff] at h
   subst h
   exact .un
  ·have:=VR.tu (w:=w) (X:=X) (o:=o) (cs:=vs.toList.map ofAgg) (vs:=vs.toList) (by simp) ?_
   ·simpa using this
   ·intro i a v ha hv
    simp only [List.getElem?_map,Option.map_eq_some_iff] at ha
    obtain ⟨x,hx,rfl⟩:=ha
    rw [hv] at hx; cases hx
    exact ofAgg_ok v
 ·exact ofAgg_ok v
theorem VR.cells_ok {w X o a v} (h:VR w X o a v) (hs:a.stor=true):VL w X o a.cells v.cells.toList∧∀ u ∈ v.cells.toList,u.oneCell'=true:=by
 have one:∀ {b:AV} {u:Value},VR w X o b u→u.oneCell'=true→b.cells=[b]→VL w X o b.cells u.cells.toList∧∀ x ∈ u.cells.toList,x.oneCell'=true:=by
  intro b u hb hu hc
  have:u.cells=#[u]:=by cases u <;> first | rfl | (simp [Value.oneCell'] at hu)
  rw [hc,this]
  exact ⟨.cons hb .nil,fun x hx=>by simp at hx; rw [hx]; exact hu⟩
 cases h with
 | sc h=>exact one (.sc h) h rfl
 | un=>simp [AV.stor] at hs
 | jk=>simp [AV.stor] at hs
 | ag hl h1 h2=>exact ⟨⟨by simpa [AV.cells,Value.cells] using hl,by simpa [AV.cells,Value.cells] using h1⟩,by simpa [Value.cells] using h2⟩
 | tu hl h1=>simp [AV.stor] at hs
 | pt h1 h2=>exact one (.pt h1 h2) h1 rfl
 | sl h1 h2=>exact one (.sl h1 h2) (sl_one h1) rfl
 | vw0 hz hm=>exact one (.vw0 hz hm) rfl rfl
 | vw1 f hne hX hb hcap hz hmax hsz hcl hv=>exact one (.vw1 f hne hX hb hcap hz hmax hsz hcl hv) rfl rfl
 | vp f hX hb hsz hcl hv=>exact one (.vp f hX hb hsz hcl hv) rfl rfl
 | fn hl h1=>exact one (.fn hl h1) rfl rfl
mutual
theorem noref_ok {w X}:∀ (a:AV) {v:Value} {o:Option HC},a.noref=true→VR w X none a v→VR w X o a v
 | .sc x,v,o,_,h=>by cases h with | sc h=>exact .sc h
 | .ag cs,v,o,hn,h=>by
  cases h with
  | ag hl h1 h2=>exact .ag hl (norefs_ok cs (by simpa [AV.noref] using hn) ⟨hl,h1⟩).2 h2
 | .tu cs,v,o,hn,h=>by
  cases h with
  | tu hl h1=>exact .tu hl (norefs_ok cs (by simpa [AV.noref] using hn) ⟨hl,h1⟩).2
 | .fn f cs,v,o,hn,h=>by
  cases h with
  | fn hl h1=>exact .fn hl (norefs_ok cs (by simpa [AV.noref] using hn) ⟨hl,h1⟩).2
 | .pt ..,_,_,hn,_=>by simp [AV.noref] at hn
 | .sl ..,_,_,hn,_=>by simp [AV.noref] at hn
 | .vw ..,v,o,_,h=>by
  cases h with
  | vw0 hz hm=>exact .vw0 hz hm
  | vw1 f hne hX hb hcap hz hmax hsz hcl hv=>exact .vw1 f hne hX hb hcap hz hmax hsz hcl hv
 | .vp ..,v,o,_,h=>by cases h with | vp f hX hb hsz hcl hv=>exact .vp f hX hb hsz hcl hv
 | .un,_,_,_,h=>by cases h; exact .un
 | .jk,_,_,_,_=>.jk
theorem norefs_ok {w X}:∀ (as:List AV) {vs:List Value} {o:Option HC},norefs as=true→VL w X none as vs→VL w X o as vs
 | [],vs,o,_,h=>by rw [h.unnil]; exact .nil
 | a::r,vs,o,hn,h=>by
  obtain ⟨v,vs',rfl,h1,h2⟩:=h.uncons
  simp only [norefs,Bool.and_eq_true] at hn
  exact .cons (noref_ok a hn.1 h1) (norefs_ok r hn.2 h2)
end
def St.hc (s:St) (loc:Nat→Option (Nat × Nat)):HC:=⟨loc,s.H,s.cnt⟩
structure SR (w:World) (X:Nat→Prop) (loc:Nat→Option (Nat × Nat)) (s:St) (a:Act):Prop where
 hr:HR w X (s.hc loc)
 tm:VL w X (some (s.hc loc)) s.T a.tmps.toList
 df:a.defers=[]
theorem ev_ok {w X o} {T:List AV} {a:Act} (h:VL w X o T a.tmps.toList) (x:Operand):VR w X o (ev T x) (a.eval x):=by
 cases x with
 | tmp t=>
  simp only [ev,Act.eval]
  have hlen:T.length=a.tmps.size:=h.1.trans Array.length_toList
  by_cases ht:t < T.length
  ·have h':t < a.tmps.size:=hlen ▸ ht
   have:=h.2 t T[t] a.tmps[t] (by simp [ht]) (by simp [h'])
   simpa [List.getD,ht,h'] using this
  ·have h':¬ t < a.tmps.size:=hlen ▸ ht
   simp only [List.getD,List.getElem?_eq_none (Nat.le_of_not_lt ht),Array.getD,h',dite_false,Option.getD_none]
   exact .un
 | const v=>exact ofV_ok v
 | global g=>exact .jk
 | func f=>exact .fn (vs:=[]) rfl (fun i a v h=>by simp at h)
theorem evs_ok {w X o} {T:List AV} {a:Act} (h:VL w X o T a.tmps.toList) (xs:List Operand):VL w X o (xs.map (ev T)) (xs.map a.eval):=
 VL.map_av fun x _=>ev_ok h x
theorem SR.put {w X loc s a} (h:SR w X loc s a) (d:Option Nat) {v:AV} {c:Value} (hv:VR w X (some (s.hc loc)) v c):SR w X loc (s.put d v) (a.put d c):=by
 cases d with
 | none=>exact h
 | some d=>
  refine ⟨h.hr,?_,h.df⟩
  have:=h.tm.set d hv
  simpa [St.put,Act.put,St.hc] using this
section
variable {P:Program} {w:World}
theorem rd_loadCellsFrom (a:Addr) (f:Nat→Value):∀ (n i:Nat) (acc:Array Value),(∀ j,j < n→w.cell? (a.add (i+j))=some (f (i+j)))→
  rd P (loadCellsFrom a i n acc) w=some (acc++((List.range n).map fun j=>f (i+j)).toArray)
 | 0,i,acc,_=>by simp [loadCellsFrom,rd_pure]
 | n+1,i,acc,h=>by
  have h0:=h 0 (by omega)
  simp only [Nat.add_zero] at h0
  have ih:=rd_loadCellsFrom a f n (i+1) (acc.push (f i)) (fun j hj=>by have:=h (j+1) (by omega); rwa [show i+(j+1)=i+1+j by omega] at this)
  simp only [loadCellsFrom,rd_bind,rd_load,h0,Option.bind_some,ih]
  congr 1
  apply Array.ext'
  simp only [Array.toList_append,Array.toList_push,List.append_assoc,List.range_succ_eq_map,List.map_cons,List.map_map,Nat.add_zero,List.singleton_append]
  congr 2
  apply List.map_congr_left
  intro j _
  simp [Nat.add_assoc,Nat.add_comm 1 j]
theorem tyD_facts {t:TypeId} {d:TyD} (h:tyD P t=some d):∃ i u,P.info? t=some i∧P.underlying t=some u∧i.size=d.sz∧i.bytes=d.bytes∧i.zero=d.zero∧
  (d.agg=match u with | .struct _ | .array _ _=>true | _=>false)∧
  (∀ el,d.el=some el→d.len=none→u=.slice el)∧(∀ el n,d.el=some el→d.len=some n→u=.array n el)∧
  (d.len=none→d.el=none→d.agg=true→∃ fs,u=.struct fs∧d.flds=fs.toList.map fun f=>(f.offset,f.type)):=by
 unfold tyD at h
 split at h
 ·rename_i i fs h1 h2; cases h; exact ⟨i,_,h1,h2,rfl,rfl,rfl,rfl,by simp,by simp,fun _ _ _=>⟨fs,rfl,rfl⟩⟩
 ·rename_i i n e h1 h2; cases h; exact ⟨i,_,h1,h2,rfl,rfl,rfl,rfl,by simp,by simp,by simp⟩
 ·rename_i i e h1 h2; cases h; exact ⟨i,_,h1,h2,rfl,rfl,rfl,rfl,by simp,by simp,by simp⟩
 ·rename_i i u hns hna hnl h1 h2
  cases h
  refine ⟨i,u,h1,h2,rfl,rfl,rfl,?_,by simp,by simp,by simp⟩
  cases u <;> first | rfl | exact absurd rfl (hns _) | exact absurd rfl (hna _ _)
 ·cases h
theorem rd_isAgg {t:TypeId} {d:TyD} (h:tyD P t=some d):rd P (isAgg t) w=some d.agg:=by
 obtain ⟨i,u,h1,h2,_,_,_,h3,_⟩:=tyD_facts h
 unfold isAgg
 rw [rd_bind,rd_underlying,h2,h3]
 simp only [Option.bind_some]
 cases u <;> rfl
theorem rd_sz {t:TypeId} {d:TyD} (h:tyD P t=some d):rd P (sizeOf t) w=some d.sz:=by
 obtain ⟨i,u,h1,h2,h3,_⟩:=tyD_facts h
 rw [rd_sizeOf,h1]; simp [h3]
theorem Addr_add (b p j:Nat):(⟨b,p,none⟩:Addr).add j=⟨b,p+j,none⟩:=Addr.add_lit b p j
theorem load_ok {X:Nat→Prop} {o:Option HC} {t:TypeId} {d:TyD} (ht:tyD P t=some d) {cs:List AV} {b p off:Nat} {f:Nat→Value} {v:AV}
  (hc:∀ j a,cs[j]?=some a→w.cell? ⟨b,p+j,none⟩=some (f j)∧(f j).oneCell'=true∧VR w X o a (f j)) (h:takeT d cs off=some v):
  ∃ c,rd P (loadVar t ⟨b,p+off,none⟩) w=some c∧VR w X o v c:=by
 unfold takeT at h
 unfold loadVar
 simp only [rd_bind,rd_isAgg ht,Option.bind_some]
 split at h
 ·rename_i hag
  split at h
  ·rename_i hl
   cases h
   have hcell:∀ j,j < d.sz→w.cell? (⟨b,p+off,none⟩:Addr)=w.cell? ⟨b,p+off,none⟩:=fun _ _=>rfl
   have hr:=rd_loadCellsFrom (P:=P) (w:=w) ⟨b,p+off,none⟩ (fun j=>f (off+j)) d.sz 0 #[] (fun j hj=>by
    rw [Addr_add]
    have hj':off+j < cs.length:=by omega
    have:=(hc (off+j) cs[off+j] (by simp [hj'])).1
    simpa [Nat.add_assoc] using this)
   refine ⟨.agg ((List.range d.sz).map fun j=>f (off+j)).toArray,?_,?_⟩
   ·simp only [hag,if_true,rd_bind,rd_sz ht,Option.bind_some,loadCells,hr,rd_pure]
    simp
   ·refine .ag (by simp; omega) ?_ ?_
    ·intro i a u ha hu
     simp only [List.getElem?_take,List.getElem?_drop] at ha
     split at ha
     ·rename_i hi
      simp only [List.getElem?_map,List.getElem?_range hi,Option.map_some,Option.some.injEq] at hu
      rw [←hu]
      exact (hc _ a ha).2.2
     ·cases ha
    ·intro u hu
     simp only [List.mem_map,List.mem_range] at hu
     obtain ⟨j,hj,rfl⟩:=hu
     have hj':off+j < cs.length:=by omega
     exact (hc (off+j) cs[off+j] (by simp [hj'])).2.1
  ·cases h
 ·rename_i hag
  obtain ⟨h1,h2,h3⟩:=hc off v h
  refine ⟨f off,?_,h3⟩
  simp only [hag,if_false,Bool.false_eq_true]
  rw [rd_load,h1]
end
theorem liveB_some {H:List Blk} {id ver:Nat} {B:Blk} (h:liveB H id ver=some B):H[id]?=some B∧B.live=true∧B.ver=ver:=by
 unfold liveB at h
 split at h
 ·rename_i B' hB
  split at h
  ·rename_i hh; cases h; exact ⟨hB,hh.1,hh.2⟩
  ·cases h
 ·cases h
theorem pt_live {w X hc id ver i off v B} (hr:HR w X hc) (hv:VR w X (some hc) (.pt id ver i off) v) (hl:liveB hc.H id ver=some B):
  ∃ b base,hc.loc id=some (b,base)∧v=.pointer (some ⟨b,base+i * B.esz+off,none⟩)∧X b∧(∃ cs,w.heap[b]?=some (.cells cs B.ty (0,0)))∧ElsOk w X hc b base B:=by
 obtain ⟨h1,h2,h3⟩:=liveB_some hl
 cases hv with
 | pt g1 g2=>
  obtain ⟨_,k2⟩:=g2 hc rfl
  obtain ⟨b,base,e1,e2⟩:=k2 B h1 h2 h3
  have:=(hr.blk id B h1 h2).2.2
  rw [e1] at this
  exact ⟨b,base,e1,e2,this.1,this.2.1,this.2.2⟩
theorem ElsOk.fn {w X hc b base B} (h:ElsOk w X hc b base B) {i:Nat} {e:AV} (he:B.els[i]?=some e):
  ∀ j a,e.cells[j]?=some a→w.cell? ⟨b,base+i * B.esz+j,none⟩=some ((w.cell? ⟨b,base+i * B.esz+j,none⟩).getD undef)∧
   ((w.cell? ⟨b,base+i * B.esz+j,none⟩).getD undef).oneCell'=true∧VR w X (some hc) a ((w.cell? ⟨b,base+i * B.esz+j,none⟩).getD undef):=by
 intro j a ha
 obtain ⟨c,h1,h2,h3⟩:=(h i e he).2 j a ha
 rw [h1]
 exact ⟨rfl,h2,h3⟩
end Go.SX
