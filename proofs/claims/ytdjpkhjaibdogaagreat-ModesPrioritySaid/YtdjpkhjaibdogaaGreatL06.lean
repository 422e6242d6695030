/-
  Lemmas towards ModesPriority (joined texts: SX8).
  Conditions: none.
-/
import Derived.Test.YtdjpkhjaibdogaaGreatL01
import Derived.Test.YtdjpkhjaibdogaaGreatL05
import Derived.IntWalk
set_option linter.unusedSimpArgs false
set_option linter.unusedVariables false
set_option maxRecDepth 100000
namespace Go.SX
open Go.RowKit (Below)
section
variable {P:Program} {w:World} {X:Nat→Prop} {loc:Nat→Option (Nat × Nat)} {s:St} {a:Act}
theorem U9 {t:TypeId} {d:TyD} (ht:AR P t=some d) {v:Value} (hv:v.cells.size=d.sz) (hone:∀ u ∈ v.cells.toList,u.oneCell'=true) {g o:Nat} {ty:TypeId} {cur:Array Value}
  (hg:w.heap[g]?=some (.cells cur ty (0,0))) (hfit:o+v.cells.size≤cur.size):
  (storeVar t ⟨g,o,none⟩ v).run P w=.ok () (w.setRow g (Bx cur.toList o v.cells.toList).toArray):=by
 unfold storeVar
 simp only [Sem.run_bind,EK (Hx (w:=w) ht),Result.andThen_ok]
 rw [if_neg (by omega)]
 have:=run_storeCells_at P g o ty v.cells.toList 0 cur w hg (by simpa using hfit) hone
 simpa [Bx] using this
theorem Real.store {hc:HC} {cs news:List Value} {base esz i off:Nat} {els:List AV} {e e':AV} {vs:List AV} (h:Real w X hc cs base esz els) (he:els[i]?=some e)
  (hset:e.setC off vs=some e') (hn:VL w X (some hc) vs news) (h1:∀ u ∈ news,u.oneCell'=true) (hpos:0 < news.length):
  base+i * esz+off+news.length≤cs.length∧e'.cells.length=esz∧Real w X hc (Bx cs (base+i * esz+off) news) base esz (els.set i e'):=by
 obtain ⟨k1,k2⟩:=h i e he
 have hlen:=hn.1
 have hcells:off+vs.length≤e.cells.length∧e'.cells=setAll e.cells off vs:=by
  unfold AV.setC at hset
  split at hset
  ·rename_i cs'
   split at hset
   ·rename_i hh; cases hset; exact ⟨hh,rfl⟩
   ·cases hset
  ·rename_i hna
   split at hset
   ·rename_i x
    simp only [lx16] at hset
    subst hset
    have hec:e.cells=[e]:=by cases e <;> first | rfl | exact absurd rfl (hna _)
    obtain ⟨u,us,e1,e2,e3⟩:=hn.uncons
    have hx:x.cells=[x]:=by
     cases x with
     | ag l=>
      have hu:=h1 u (by rw [e1]; simp)
      cases e2; simp [Value.oneCell'] at hu
     | _=>rfl
    rw [hec,hx]
    exact ⟨by simp,rfl⟩
   ·cases hset
 obtain ⟨hc1,hc2⟩:=hcells
 have hfit:base+i * esz+off+news.length≤cs.length:=by
  have hlast:off+news.length - 1 < e.cells.length:=An
  obtain ⟨c,g1,_⟩:=k2 (off+news.length - 1) e.cells[off+news.length - 1] (by simp [hlast])
  have:=(lx22.1 g1).1
  omega
 have he'len:e'.cells.length=esz:=by rw [hc2,Fs,k1]
 refine ⟨hfit,he'len,fun k ek hk=>?_⟩
 rw [lx21] at hk
 split at hk
 ·rename_i hik
  subst hik
  split at hk
  ·cases hk
   refine ⟨he'len,fun j x hx=>?_⟩
   rw [hc2,Ek _ _ _ _ hc1] at hx
   rw [Dr _ _ _ hfit]
   split at hx
   ·rename_i hj
    rw [if_pos (by omega)]
    obtain ⟨u,g1,g2⟩:=hn.get hx
    rw [show base+i * esz+j - (base+i * esz+off)=j - off by omega]
    exact ⟨u,g1,h1 u (lx25 g1),g2⟩
   ·rename_i hj
    rw [if_neg (by omega)]
    exact k2 j x hx
  ·cases hk
 ·rename_i hik
  obtain ⟨q1,q2⟩:=h k ek hk
  refine ⟨q1,fun j x hx=>?_⟩
  have hj:j < esz:=by rw [←q1]; exact (lx22.1 hx).1
  rw [Dr _ _ _ hfit,if_neg]
  ·exact q2 j x hx
  ·rcases Nat.lt_or_gt_of_ne hik with hlt | hgt
   ·have:=DE (esz:=esz) hlt; omega
   ·have:=DE (esz:=esz) hgt; omega
theorem Ak8 {o:Oper} {t:TypeId} {x y:Operand} (ho:o.op=.store t x y) (hs:SR w X loc s a) {s':St} (h:Aw P s (.store t x y) o.dst=some s'):KQ P w X loc s a o s':=by
 simp only [Aw] at h
 split at h
 rotate_left
 ·cases h
 rename_i d id ver i off htd hev
 split at h
 rotate_left
 ·cases h
 rename_i B hl
 split at h
 rotate_left
 ·cases h
 rename_i e he
 split at h
 rotate_left
 ·cases h
 rename_i hh
 obtain ⟨c1,c2,c3⟩:=hh
 split at h
 rotate_left
 ·cases h
 rename_i e' hset
 cases h
 have hx:=BV hs.tm x
 have hy:=BV hs.tm y
 rw [hev] at hx
 obtain ⟨g1,g2,g3⟩:=Bc hl
 obtain ⟨b,base,q1,q2,q3,⟨cs,q4⟩,q5⟩:=Gy hs.hr hx hl
 obtain ⟨n1,n2⟩:=hy.cells_ok c1
 have hsz:(a.eval y).cells.size=d.sz:=by rw [←c2,n1.1]; simp
 have hreal:Real w X (s.hc loc) cs.toList base B.esz B.els:=ElsOk.real q5 q4
 obtain ⟨r1,r2,r3⟩:=hreal.store he hset n1 n2 (by simp; omega)
 have hlen:(Bx cs.toList (base+i * B.esz+off) (a.eval y).cells.toList).toArray.size=cs.size:=by
  simp only [lx55]
  rw [Ft _ _ _ r1]; simp
 have hblk:=hs.hr.blk id B g1 g2
 obtain ⟨u1,u2⟩:=QU hs.hr id B { B with els:=B.els.set i e' } b base base s.cnt cs (Bx cs.toList (base+i * B.esz+off) (a.eval y).cells.toList).toArray
  g1 g2 q1 q4 hlen rfl g2 (by simpa using hblk.2.1) (.inl ⟨rfl,rfl,by simp,rfl,rfl⟩) (by simpa using r3)
 have hrun:(execOp a.eval o).run P w=.ok .skip (w.setRow b (Bx cs.toList (base+i * B.esz+off) (a.eval y).cells.toList).toArray):=by
  unfold execOp
  have h1:=U9 (w:=w) htd hsz n2 q4 (o:=base+i * B.esz+off) (by simp at r1 ⊢; omega)
  simp only [ho,Instr.storeAt,q2,Instr.sureAddr,Sem.run_bind,Sem.run_pure,Result.andThen_ok,h1]
 refine ⟨.skip,undef,_,X,(fun k=>if k=id then some (b,base) else loc k),hrun,.inr ⟨rfl,rfl⟩,?_,?_⟩
 ·have base':SR (w.setRow b (Bx cs.toList (base+i * B.esz+off) (a.eval y).cells.toList).toArray) X (fun k=>if k=id then some (b,base) else loc k) { s with H:=s.H.set id { B with els:=B.els.set i e' } } a:=
   ⟨u1,hs.tm.mono u2 hs.hr,hs.df⟩
  exact base'.put o.dst .un
 ·cases hd:o.dst <;> exact u2
theorem Real.replicate {hc:HC} {v:AV} {c:Value} (hv:VR w X (some hc) v c) (hst:v.stor=true) {n:Nat} {cells:List Value}
  (hcell:∀ i j,i < n→j < v.cells.length→cells[i * v.cells.length+j]?=c.cells.toList[j]?):Real w X hc cells 0 v.cells.length (List.replicate n v):=by
 obtain ⟨g1,g2⟩:=hv.cells_ok hst
 intro i e he
 rw [List.getElem?_replicate] at he
 split at he
 ·rename_i hi
  cases he
  refine ⟨rfl,fun j x hx=>?_⟩
  have hj:=(lx22.1 hx).1
  obtain ⟨u,e1,e2⟩:=g1.get hx
  exact ⟨u,by rw [CL,hcell i j hi hj,e1],g2 u (lx25 e1),e2⟩
 ·cases he
theorem NG {z:Array Value} {n i j:Nat} (hi:i < n) (hj:j < z.size):((Array.range (n * z.size)).map (fun k=>z[k % z.size]!)).toList[i * z.size+j]?=z.toList[j]?:=by
 have h1:i * z.size+j < n * z.size:=by have:=DE (esz:=z.size) hi; omega
 have h2:(i * z.size+j) % z.size=j:=by rw [Nat.mul_comm,Nat.mul_add_mod,Nat.mod_eq_of_lt hj]
 simp [h1,h2,hj]
theorem NH {id:Nat} {H':List Blk} {B:Blk} {w':World} {cells:Array Value} (hheap:w'.heap=w.heap.push (.cells cells B.ty (0,0))) (hH:H'[id]?=some B) (h2:B.ver=s.cnt) {len cap:Nat}
  (hlen:len≤B.els.length) (hcap:len≤cap) (hmax:cap≤maxLen) (hfit:cap * B.esz≤cells.size):
  VR w' (fun b=>X b∨b=w.heap.size) (some ⟨fun k=>if k=id then some (w.heap.size,0) else loc k,H',s.cnt+1⟩) (.sl id s.cnt 0 len) (.slice (some ⟨w.heap.size,0,none⟩) len cap):=by
 refine .sl ⟨_,_,rfl⟩ ?_
 intro hc1 he
 cases he
 refine ⟨by simp,fun B' e1 e2 e3=>?_⟩
 simp only at e1
 rw [hH] at e1
 cases e1
 refine ⟨by omega,.inr ⟨w.heap.size,0,cap,cells.size,by simp,by simp,hcap,hmax,?_,by simpa using hfit⟩⟩
 simp [World.shape?,hheap]
theorem KX {o:Oper} {t:TypeId} {x y:Operand} (ho:o.op=.makeSlice t x y) (hs:SR w X loc s a) {s':St} (h:Aw P s (.makeSlice t x y) o.dst=some s'):HsNew P w X loc s a o s':=by
 simp only [Aw] at h
 split at h
 rotate_left
 ·cases h
 rename_i d htd
 obtain ⟨ti,u,f1,f2,f3,f4,f5,f6,f7,f8,f9⟩:=Bl htd
 split at h
 rotate_left
 ·cases h
 rename_i el hel hlen
 have hu:=f7 el hel hlen
 subst hu
 split at h
 rotate_left
 ·cases h
 rename_i de hde
 obtain ⟨ei,eu,e1,e2,e3,e4,e5,_⟩:=Bl hde
 split at h
 rotate_left
 ·cases h
 rename_i z k n k' m hz hxv hyv
 split at h
 rotate_left
 ·cases h
 rename_i hh
 obtain ⟨c1,c2,c3,c4,c5,c6,c7⟩:=hh
 cases h
 have hx:=BV hs.tm x
 have hy:=BV hs.tm y
 rw [hxv] at hx
 rw [hyv] at hy
 generalize hqx:a.eval x=cx at hx
 generalize hqy:a.eval y=cy at hy
 cases hx; cases hy
 have hzok:=G6 (w:=w) (X:=X) (o:=some (s.hc loc)) z
 obtain ⟨z1,z2⟩:=hzok.cells_ok c1
 have hzs:z.cells.size=de.sz:=by rw [←c2,z1.1]; simp
 have hm0:0≤m:=An
 have hmle:m≤140737488355328:=by
  have:m * 1≤m * (de.bytes:Int):=Int.mul_le_mul_of_nonneg_left (by omega) hm0
  omega
 have hwn:IntKind.i64.wrap n=n:=IntWalk.i64_in n (by omega)
 have hwm:IntKind.i64.wrap m=m:=IntWalk.i64_in m (by omega)
 have hbm:(de.bytes:Int) * m≤140737488355328:=by rw [Int.mul_comm]; exact c7
 have hzero:∀ w:World,(zeroValue el).run P w=.ok z w:=fun w=>EK (by rw [EM,e1]; simp [e5,hz])
 have hrun:(execOp a.eval o).run P w=.ok (.value (.slice (some ⟨w.heap.size,0,none⟩) n.toNat m.toNat))
   { w with heap:=w.heap.push (.cells ((Array.range (m.toNat * de.sz)).map (fun k=>z.cells[k % z.cells.size]!)) el) }:=by
  unfold execOp
  have n1:¬ (m < 0∨281474976710656 < (de.bytes:Int) * m):=An
  have hti:∀ w:World,(typeInfo el).run P w=.ok ei w:=fun w=>EK (by rw [JG,e1])
  simp only [ho,hqx,hqy,Instr.makeSlice,Sem.run_bind,EK (Ar (P:=P) (w:=w) t ▸ f2),run_underlying f2,Result.andThen_ok,asInt,asIntOf,Sem.run_pure,hti,hwn,hwm,e4]
  rw [if_neg (by simp; omega)]
  by_cases hm:m.toNat * de.sz=0
  ·have hm':m.toNat=0:=by
    rcases Nat.mul_eq_zero.1 hm with h | h
    ·exact h
    ·omega
   simp [run_askRoom,EK (Hx (w:=w) hde),hm',newRow,show Array.range 0=#[] from rfl]
  ·simp [run_askRoom,EK (Hx (w:=w) hde),hm,hzero,newRow]
 refine Lk hs (id:=s.H.length) (B:=⟨true,s.cnt,el,de.sz,List.replicate n.toNat (Ax z),false⟩) (cells:=(Array.range (m.toNat * de.sz)).map (fun k=>z.cells[k % z.cells.size]!))
  (w':={ w with heap:=w.heap.push (.cells ((Array.range (m.toNat * de.sz)).map (fun k=>z.cells[k % z.cells.size]!)) el) }) (c:=.slice (some ⟨w.heap.size,0,none⟩) n.toNat m.toNat)
  rfl rfl rfl rfl rfl (by simp) (fun k hk=>?_) rfl rfl (by simp [Dl]; omega) ?_ ?_ hrun (.inl rfl)
 ·rw [lx18]
  split
  ·rfl
  ·rename_i h
   exact Aqq
 ·have:=Real.replicate hzok c1 (n:=n.toNat) (cells:=((Array.range (m.toNat * de.sz)).map (fun k=>z.cells[k % z.cells.size]!)).toList) (fun i j hi hj=>by
   rw [c2] at hj ⊢
   rw [←hzs] at hj ⊢
   exact NG (by omega) hj)
  rw [c2] at this
  exact this
 ·exact NH (B:=⟨true,s.cnt,el,de.sz,List.replicate n.toNat (Ax z),false⟩) (cells:=(Array.range (m.toNat * de.sz)).map (fun k=>z.cells[k % z.cells.size]!)) (cap:=m.toNat) rfl (by simp) rfl (by simp) (by omega) (by simp only [maxLen]; omega) (by simp)
theorem Va {o:Oper} {t:TypeId} {x y:Operand} (ho:o.op=.makeSlice t x y) (hs:SR w X loc s a) {s':St} (h:Aw P s (.makeSlice t x y) o.dst=some s'):KQ P w X loc s a o s':=(KX ho hs h).ok
theorem WY {T:List AV} {hc:HC} (ht:VL w X (some hc) T a.tmps.toList) (size:Nat) (hpos:0 < size):∀ (ops:List (Nat × Operand)) {es es':List AV} {vs:List Value},
  G5 size es (ops.map fun p=>(p.1,ev T p.2))=some es'→Real w X hc vs 0 size es→vs.length=es.length * size→
  ∃ vs',Instr.fill (fun i=>some (i * size,size)) vs.toArray (ops.map fun p=>(p.1,a.eval p.2))=some vs'.toArray∧Real w X hc vs' 0 size es'∧vs'.length=vs.length∧es'.length=es.length
 | [],es,es',vs,h,h1,h2=>by
  simp only [lx46,G5,lx16] at h
  subst h
  exact ⟨vs,rfl,h1,rfl,rfl⟩
 | (i,x)::r,es,es',vs,h,h1,h2=>by
  simp only [lx31,G5] at h
  split at h
  ·rename_i hh
   obtain ⟨c1,c2,c3⟩:=hh
   have hx:=BV ht x
   obtain ⟨g1,g2⟩:=hx.cells_ok c1
   have hlen:=g1.1
   have hsz:(a.eval x).cells.size=size:=by rw [←c2,hlen]; simp
   have DO:i * size+size≤vs.length:=by rw [h2]; exact DE c3
   have h1':Real w X hc (setAll vs (i * size) (a.eval x).cells.toList) 0 size (es.set i (ev T x)):=by
    intro k ek hk
    rw [lx21] at hk
    have hfit:i * size+(a.eval x).cells.toList.length≤vs.length:=by simp [hsz]; exact DO
    split at hk
    ·rename_i hik
     subst hik
     cases hk
     refine ⟨c2,fun j y hy=>?_⟩
     have hj:j < size:=by rw [←c2]; exact (lx22.1 hy).1
     obtain ⟨u,e1,e2⟩:=g1.get hy
     refine ⟨u,?_,g2 u (lx25 e1),e2⟩
     rw [Ek _ _ _ _ hfit,if_pos (by simp [hsz]; omega),show 0+i * size+j - i * size=j by omega,e1]
    ·rename_i hik
     obtain ⟨q1,q2⟩:=h1 k ek hk
     refine ⟨q1,fun j y hy=>?_⟩
     have hj:j < size:=by rw [←q1]; exact (lx22.1 hy).1
     rw [Ek _ _ _ _ hfit,if_neg]
     ·exact q2 j y hy
     ·simp only [lx29,hsz]
      rcases Nat.lt_or_gt_of_ne hik with hlt | hgt
      ·have:=DE (esz:=size) hlt; omega
      ·have:=DE (esz:=size) hgt; omega
   obtain ⟨vs',e1,e2,e3,e4⟩:=WY ht size hpos r (vs:=setAll vs (i * size) (a.eval x).cells.toList) h h1' (by rw [Fs]; simpa using h2)
   refine ⟨vs',?_,e2,by rw [e3,Fs],by simpa using e4⟩
   have hf:(a.eval x).cells.zipIdx.foldl (fun cs (p:Value × Nat)=>cs.setIfInBounds (i * size+p.2) p.1) vs.toArray=(setAll vs (i * size) (a.eval x).cells.toList).toArray:=by
    apply Array.ext'
    rw [←Array.foldl_toList,Array.toList_zipIdx]
    have:=IE (i * size) (a.eval x).cells.toList 0 vs.toArray
    simpa using this
   simp only [lx31,Instr.fill]
   rw [if_neg (by simp [hsz]; omega)]
   rw [←e1]
   congr 1
  ·cases h
theorem JI {o:Oper} {t:TypeId} {len:Nat} {parts:Array (Nat × Operand)} (ho:o.op=.buildSlice t len parts) (hs:SR w X loc s a) {s':St} (h:Aw P s (.buildSlice t len parts) o.dst=some s'):HsNew P w X loc s a o s':=by
 simp only [Aw] at h
 split at h
 rotate_left
 ·cases h
 rename_i d htd
 obtain ⟨ti,u,f1,f2,f3,f4,f5,f6,f7,f8,f9⟩:=Bl htd
 split at h
 rotate_left
 ·cases h
 rename_i el hel hlen
 have hu:=f7 el hel hlen
 subst hu
 split at h
 rotate_left
 ·cases h
 rename_i de hde
 obtain ⟨ei,eu,e1,e2,e3,e4,e5,_⟩:=Bl hde
 split at h
 rotate_left
 ·cases h
 rename_i z hz
 split at h
 rotate_left
 ·cases h
 rename_i es hes
 split at h
 rotate_left
 ·cases h
 rename_i hh
 obtain ⟨c1,c2,c3,c4⟩:=hh
 cases h
 have hzok:=G6 (w:=w) (X:=X) (o:=some (s.hc loc)) z
 obtain ⟨z1,z2⟩:=hzok.cells_ok c1
 have hzs:z.cells.size=de.sz:=by rw [←c2,z1.1]; simp
 have hzero:∀ w:World,(zeroValue el).run P w=.ok z w:=fun w=>EK (by rw [EM,e1]; simp [e5,hz])
 have hpm:(parts.map fun (p:Nat × Operand)=>(p.1,a.eval p.2)).toList=parts.toList.map fun p=>(p.1,a.eval p.2):=AZ
 have Kp:=Real.replicate hzok c1 (n:=len) (cells:=((Array.range (len * de.sz)).map (fun k=>z.cells[k % z.cells.size]!)).toList) (fun i j hi hj=>by
   rw [c2] at hj ⊢
   rw [←hzs] at hj ⊢
   exact NG (by omega) hj)
 rw [c2] at Kp
 obtain ⟨vs',g1,g2,g3,g4⟩:=WY hs.tm de.sz c3 parts.toList hes Kp (by simp)
 simp only [List.length_replicate] at g4
 have hlen48:len≤16777216:=by have:=Nat.le_mul_of_pos_right len c3; omega
 have hrun:(execOp a.eval o).run P w=.ok (.value (.slice (some ⟨w.heap.size,0,none⟩) len len)) { w with heap:=w.heap.push (.cells vs'.toArray el) }:=by
  unfold execOp
  simp only [ho,Instr.buildSlice,Sem.run_bind,run_underlying f2,EK (Hx (w:=w) hde),Result.andThen_ok,hpm]
  have hf:Instr.fill (fun i=>some (i * de.sz,de.sz)) ((Array.range (len * de.sz)).map (fun k=>z.cells[k % z.cells.size]!)) (parts.toList.map fun p=>(p.1,a.eval p.2))=some vs'.toArray:=by
   rw [Array.toArray_toList] at g1
   exact g1
  rw [if_neg (by simp; omega)]
  by_cases hm:len * de.sz=0
  ·rw [hm,show Array.range 0=#[] from rfl] at hf
   simp only [Array.map_empty] at hf
   have hfE:∀ g:Nat→Value,Array.map g (Array.range 0)=#[]:=fun g=>by rw [show Array.range 0=#[] from rfl,Array.map_empty]
   simp [hm,hfE,hf,newRow]
  ·simp [hm,hzero,hf,newRow]
 refine Lk hs (id:=s.H.length) (B:=⟨true,s.cnt,el,de.sz,es,true⟩) (cells:=vs'.toArray)
  (w':={ w with heap:=w.heap.push (.cells vs'.toArray el) }) (c:=.slice (some ⟨w.heap.size,0,none⟩) len len)
  rfl rfl rfl rfl rfl (by simp) (fun k hk=>?_) rfl rfl (by simp [Dl,g4]; omega) (by simpa using g2) ?_ hrun (.inl rfl)
 ·rw [lx18]
  split
  ·rfl
  ·rename_i h
   exact Aqq
 ·exact NH (B:=⟨true,s.cnt,el,de.sz,es,true⟩) (cells:=vs'.toArray) (cap:=len) rfl (by simp) rfl (by simp [g4]) (by omega) (by simp only [maxLen]; omega) (by simp [g3])
def Vb (m esz:Nat) (f:Nat→Nat→Value):List Value:=(List.range (m * esz)).map fun q=>f (q / esz) (q % esz)
theorem SV {o:Oper} {t:TypeId} {len:Nat} {parts:Array (Nat × Operand)} (ho:o.op=.buildSlice t len parts) (hs:SR w X loc s a) {s':St} (h:Aw P s (.buildSlice t len parts) o.dst=some s'):KQ P w X loc s a o s':=(JI ho hs h).ok
theorem WZ {m esz:Nat} {f:Nat→Nat→Value} {i j:Nat} (hi:i < m) (hj:j < esz):(Vb m esz f)[i * esz+j]?=some (f i j):=by
 have h1:i * esz+j < m * esz:=by have:=DE (esz:=esz) hi; omega
 have h2:(i * esz+j) / esz=i:=by rw [Nat.mul_comm,Nat.mul_add_div (by omega),Nat.div_eq_of_lt hj,Gl]
 have h3:(i * esz+j) % esz=j:=by rw [Nat.mul_comm,Nat.mul_add_mod,Nat.mod_eq_of_lt hj]
 simp [Vb,h1,h2,h3]
theorem Ahb:Dl≤maxLen:=by decide
theorem Ak9 (hs:SR w X loc s a) {y:AV} {c:Value} (hy:VR w X (some (s.hc loc)) y c) {ys:List AV} (h:L7 s.H y=some ys) {esz:Nat} (hpos:0 < esz) (hall:ys.all (fun e=>e.cells.length=esz)=true):
  ∃ p cap news,c=.slice p ys.length cap∧ys.length≤maxLen∧news.length=ys.length * esz∧Real w X (s.hc loc) news 0 esz ys∧(∀ u ∈ news,u.oneCell'=true)∧
   (ys.length=0∨∃ b o,p=some ⟨b,o,none⟩∧∀ j u,news[j]?=some u→w.cell? ⟨b,o+j,none⟩=some u):=by
 have hall':=Av8 hall
 have key:∀ (b base:Nat) (f:Nat→Nat→Value),(∀ i j,i < ys.length→j < esz→w.cell? ⟨b,base+i * esz+j,none⟩=some (f i j)∧(f i j).oneCell'=true)→
   (∀ i e j x,ys[i]?=some e→e.cells[j]?=some x→VR w X (some (s.hc loc)) x (f i j))→
   (Vb ys.length esz f).length=ys.length * esz∧Real w X (s.hc loc) (Vb ys.length esz f) 0 esz ys∧(∀ u ∈ Vb ys.length esz f,u.oneCell'=true)∧
   ∀ j u,(Vb ys.length esz f)[j]?=some u→w.cell? ⟨b,base+j,none⟩=some u:=by
  intro b base f h1 h2
  have split:∀ q,q < ys.length * esz→q / esz < ys.length∧q % esz < esz∧q / esz * esz+q % esz=q:=fun q hq=>
   ⟨Nat.div_lt_of_lt_mul (by rw [Nat.mul_comm]; exact hq),Nat.mod_lt _ hpos,Nat.div_add_mod' q esz⟩
  refine ⟨by simp [Vb],fun i e he=>⟨hall' e (lx25 he),fun j x hx=>?_⟩,fun u hu=>?_,fun j u hu=>?_⟩
  ·have hi:=(lx22.1 he).1
   have hj:=(lx22.1 hx).1
   rw [hall' e (lx25 he)] at hj
   refine ⟨f i j,?_,(h1 i j hi hj).2,h2 i e j x he hx⟩
   rw [CL]
   exact WZ hi hj
  ·simp only [Vb,lx35,Hr] at hu
   obtain ⟨q,hq,rfl⟩:=hu
   obtain ⟨k1,k2,k3⟩:=split q hq
   exact (h1 _ _ k1 k2).2
  ·have hj:=(lx22.1 hu).1
   simp only [Vb,lx57,U2] at hj
   obtain ⟨k1,k2,k3⟩:=split j hj
   have:=(h1 _ _ k1 k2).1
   rw [F0,k3] at this
   rw [this]
   have hf:=WZ (f:=f) k1 k2
   rw [k3] at hf
   rw [hf] at hu
   exact hu
 have empty:∀ p cap,ys=[]→c=.slice p 0 cap→∃ p cap news,c=.slice p ys.length cap∧ys.length≤maxLen∧news.length=ys.length * esz∧Real w X (s.hc loc) news 0 esz ys∧(∀ u ∈ news,u.oneCell'=true)∧
   (ys.length=0∨∃ b o,p=some ⟨b,o,none⟩∧∀ j u,news[j]?=some u→w.cell? ⟨b,o+j,none⟩=some u):=by
  intro p cap h1 h2
  subst h1
  exact ⟨p,cap,[],h2,Bq _,by simp,fun i e he=>by simp at he,by simp,.inl rfl⟩
 unfold L7 at h
 split at h
 ·rename_i z es
  split at h
  ·rename_i hnr
   cases h
   cases hy with
   | vw0 hz hm=>exact empty _ _ rfl rfl
   | @vw1 _ _ _ b base cap esz' f hne hX hb hcap hz hmax hsz hc hv=>
    have hee:esz'=esz:=by
     obtain ⟨e,he⟩:=List.exists_mem_of_ne_nil ys hne
     exact (hsz e he).symm.trans (hall' e he)
    subst hee
    obtain ⟨k1,k2,k3,k4⟩:=key b base f hc (fun i e j x he hx=>by
     have hmem:=lx25 he
     have hnr':=lx28.1 hnr e hmem
     have:∀ x ∈ e.cells,x.noref=true:=by
      intro x hx
      cases e with
      | ag cs=>
       simp only [AV.noref] at hnr'
       have:∀ l:List AV,norefs l=true→∀ x ∈ l,x.noref=true:=by
        intro l
        induction l with
        | nil=>intro _ x hx; simp at hx
        | cons y r ih=>
         intro hl x hx
         simp only [norefs,AH] at hl
         rcases lx59.1 hx with rfl | hx
         ·exact hl.1
         ·exact ih hl.2 x hx
       exact this cs hnr' x hx
      | _=>simp [AV.cells] at hx; subst hx; exact hnr'
     exact F7 x (this x (lx25 hx)) (hv i e j x he hx))
    exact ⟨_,cap,_,rfl,by omega,k1,k2,k3,.inr ⟨b,base,rfl,k4⟩⟩
  ·cases h
 ·rename_i id ver lo len
  simp only [lx24] at h
  obtain ⟨B,hl,rfl⟩:=h
  obtain ⟨g1,g2,g3⟩:=Bc hl
  cases hy with
  | sl q1 q2=>
   obtain ⟨r1,r2⟩:=q2 _ rfl
   obtain ⟨r3,r4⟩:=r2 B g1 g2 g3
   have hlen:((B.els.drop lo).take len).length=len:=F6
   have hBk:=hs.hr.blk id B g1 g2
   have hl48:=hBk.2.1
   rcases r4 with ⟨r4,p,hp⟩ | ⟨b,base,cap,nn,hloc,k1,k2,k3,k4,k5⟩
   ·subst r4
    exact empty p 0 (by simp) hp
   ·by_cases h0:len=0
    ·subst h0
     exact empty _ cap (by simp) k1
    ·have hB2:=hBk.2.2
     rw [hloc] at hB2
     obtain ⟨m1,⟨cs,m2⟩,m3⟩:=hB2
     have hget:∀ i e,((B.els.drop lo).take len)[i]?=some e→B.els[lo+i]?=some e:=by
      intro i e he
      rw [lx19] at he
      split at he
      ·rwa [lx20] at he
      ·cases he
     have hbz:B.esz=esz:=by
      have hi:0 < ((B.els.drop lo).take len).length:=An
      have he:((B.els.drop lo).take len)[0]?=some ((B.els.drop lo).take len)[0]:=lx50 hi
      exact (m3 _ _ (hget 0 _ he)).1.symm.trans (hall' _ (lx25 he))
     have cellAt:∀ i e j x,((B.els.drop lo).take len)[i]?=some e→e.cells[j]?=some x→∃ c,w.cell? ⟨b,base+lo * B.esz+i * esz+j,none⟩=some c∧c.oneCell'=true∧VR w X (some (s.hc loc)) x c:=by
      intro i e j x he hx
      obtain ⟨q1,q2⟩:=m3 _ e (hget i e he)
      obtain ⟨c,e1,e2,e3⟩:=q2 j x hx
      rw [Gx,←F0] at e1
      rw [←hbz]
      exact ⟨c,e1,e2,e3⟩
     obtain ⟨k1',k2',k3',k4'⟩:=key b (base+lo * B.esz) (fun i j=>(w.cell? ⟨b,base+lo * B.esz+i * esz+j,none⟩).getD undef)
      (fun i j hi hj=>by
       have he:((B.els.drop lo).take len)[i]?=some ((B.els.drop lo).take len)[i]:=lx50 hi
       have hj':j < ((B.els.drop lo).take len)[i].cells.length:=by rw [hall' _ (lx25 he)]; exact hj
       obtain ⟨c,e1,e2,_⟩:=cellAt i _ j _ he (lx50 hj')
       rw [e1]
       exact ⟨rfl,e2⟩)
      (fun i e j x he hx=>by
       obtain ⟨c,e1,e2,e3⟩:=cellAt i e j x he hx
       rw [e1]
       exact e3)
     refine ⟨_,cap,_,by rw [hlen]; exact k1,by rw [hlen]; have:=Ahb; omega,k1',k2',k3',.inr ⟨b,base+lo * B.esz,rfl,k4'⟩⟩
 ·cases h
  cases hy with
  | sc _=>exact empty _ _ rfl rfl
 ·cases h
end
end Go.SX
