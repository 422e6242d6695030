/-
  Lemmas towards ModesPriority (joined texts: SX9).
  Conditions: none.
-/
import Derived.Test.YtdjpkhjaibdogaaGreatL01
import Derived.Test.YtdjpkhjaibdogaaGreatL06
set_option linter.unusedSimpArgs false
set_option linter.unusedVariables false
set_option maxRecDepth 100000
namespace Go.SX
open Go.RowKit (Below)
section
variable {P:Program} {w:World} {X:Nat→Prop} {loc:Nat→Option (Nat × Nat)} {s:St} {a:Act}
theorem Fh {size m cap:Nat} {p:Option Addr} {news:List Value} (hl:news.length=m * size)
  (h:m=0∨∃ b o,p=some ⟨b,o,none⟩∧∀ j u,news[j]?=some u→w.cell? ⟨b,o+j,none⟩=some u) (c:Nat):
  (Builtin.firstCells size m (.slice p c cap)).run P w=.ok news.toArray w:=by
 rcases h with h | ⟨b,o,rfl,h⟩
 ·subst h
  have:news=[]:=lx60 (by simpa using hl)
  subst this
  cases p <;> simp [Builtin.firstCells,loadCells,loadCellsFrom]
 ·exact run_firstCells_some w size m ⟨b,o,none⟩ c cap news hl (fun j v hv=>by rw [F8]; exact h j v hv)
theorem SW {t ty e:TypeId} {i:TypeInfo} (ht:P.underlying t=some (.slice e)) (hi:P.info? e=some i)
  {b o sLen sCap:Nat} {cur:Array Value} {ety:TypeId} (hg:w.heap[b]?=some (.cells cur ety (0,0)))
  {p:Option Addr} {m c:Nat} {news:List Value} (hl:news.length=m * i.size)
  (hsrc:m=0∨∃ b o,p=some ⟨b,o,none⟩∧∀ j u,news[j]?=some u→w.cell? ⟨b,o+j,none⟩=some u) (h1:∀ u ∈ news,u.oneCell'=true)
  (hroom:sLen+m≤sCap) (hfit:o+sLen * i.size+news.length≤cur.size):
  (Builtin.append_ #[t,t] ty #[.slice (some ⟨b,o,none⟩) sLen sCap,.slice p m c]).run P w=
   .ok (.slice (some ⟨b,o,none⟩) (sLen+m) sCap) (w.setRow b (Bx cur.toList (o+sLen * i.size) news).toArray):=by
 have hf:=Fh (P:=P) (cap:=c) hl hsrc m
 have hst:=run_storeCells_at P b (o+sLen * i.size) ety news 0 cur w hg (by simpa using hfit) h1
 simp only [Gl] at hst
 simp [Builtin.append_,run_underlying ht,sizeOf,typeInfo,hi,Builtin.lenOf,hroom,hf,Addr.add_lit,hst,Bx]
theorem Jm {t ty e:TypeId} {i:TypeInfo} (ht:P.underlying t=some (.slice e)) (hi:P.info? e=some i) {q:Option Addr} (hq:∀ a,q=some a→a.spot=none∨True)
  {p:Option Addr} {c:Nat}:
  (Builtin.append_ #[t,t] ty #[.slice q 0 0,.slice p 0 c]).run P w=.ok (.slice q 0 0) w:=by
 have hf:=Fh (P:=P) (w:=w) (p:=p) (cap:=c) (news:=[]) (size:=i.size) (m:=0) (by simp) (.inl rfl) 0
 cases q <;> simp [Builtin.append_,run_underlying ht,sizeOf,typeInfo,hi,Builtin.lenOf,hf,storeCells]
theorem G7 {t ty e:TypeId} {i:TypeInfo} {z:Value} (ht:P.underlying t=some (.slice e)) (hi:P.info? e=some i) (hz:i.zero=some z)
  {q:Option Addr} {sLen sCap:Nat} {olds:List Value} (hlo:olds.length=sLen * i.size) (holds:sLen=0∨∃ b o,q=some ⟨b,o,none⟩∧∀ j u,olds[j]?=some u→w.cell? ⟨b,o+j,none⟩=some u)
  {p:Option Addr} {m c:Nat} {news:List Value} (hl:news.length=m * i.size) (hsrc:m=0∨∃ b o,p=some ⟨b,o,none⟩∧∀ j u,news[j]?=some u→w.cell? ⟨b,o+j,none⟩=some u)
  (hg:sCap < sLen+m) (h63:sLen+m≤9223372036854775807) (hfit:Builtin.nextslicecap (sLen+m) sCap * i.bytes≤281474976710656):
  (Builtin.append_ #[t,t] ty #[.slice q sLen sCap,.slice p m c]).run P w=
   .ok (.slice (some ⟨w.heap.size,0,none⟩) (sLen+m) (grownCap w (sLen+m) sCap e))
    (w.drew.alloc (.cells (olds.toArray++news.toArray++Builtin.zeroCells z.cells (grownCap w (sLen+m) sCap e - (sLen+m))) e)):=by
 have hn:¬ (sLen+m≤sCap):=An
 have h63':¬ (9223372036854775807 < ((sLen:Int)+(m:Int))):=An
 have h48':¬ (281474976710656 < Builtin.nextslicecap (sLen+m) sCap * i.bytes):=An
 have hf:=Fh (P:=P) (w:=w.drew) (cap:=c) (c:=m) hl (by simpa using hsrc)
 have hfo:=Fh (P:=P) (w:=w.drew) (cap:=sCap) (c:=sLen) hlo (by simpa using holds)
 simp [Builtin.append_,run_underlying ht,sizeOf,typeInfo,zeroValue,hi,hz,Builtin.lenOf,hn,h63',h48',Question.forced,hf,hfo,newRow,grownCap]
 congr 2
 apply Array.ext'
 simp [lx6]
theorem Ahc (H:List Blk) (x:AV):∀ (id:Nat) (B:Blk),(BQ H x)[id]?=some B→H[id]?=some B:=by
 intro id B h
 unfold BQ at h
 split at h
 ·split at h
  ·split at h
   ·rw [List.dropLast_eq_take,lx19] at h
    split at h
    ·exact h
    ·cases h
   ·exact h
  ·exact h
 ·exact h
theorem Real.seg {hc:HC} {cs:List Value} {base esz lo len:Nat} {els:List AV} (h:Real w X hc cs base esz els) (hlen:lo+len≤els.length):
  Real w X hc ((cs.drop (base+lo * esz)).take (len * esz)) 0 esz ((els.drop lo).take len):=by
 intro i e he
 rw [lx19] at he
 split at he
 ·rename_i hi
  rw [lx20] at he
  obtain ⟨h1,h2⟩:=h (lo+i) e he
  refine ⟨h1,fun j x hx=>?_⟩
  have hj:j < esz:=WN
  obtain ⟨c,g1,g2,g3⟩:=h2 j x hx
  refine ⟨c,?_,g2,g3⟩
  have:=DE (esz:=esz) hi
  rw [lx19,if_pos (by omega),lx20]
  rw [Gx] at g1
  rw [show base+lo * esz+(0+i * esz+j)=base+(lo * esz+i * esz)+j by omega]
  exact g1
 ·cases he
theorem Real.append {hc:HC} {cs news:List Value} {esz:Nat} {els ys:List AV} (h:Real w X hc cs 0 esz els) (hl:cs.length=els.length * esz) (k:Real w X hc news 0 esz ys):
  Real w X hc (cs++news) 0 esz (els++ys):=by
 intro i e he
 rw [lx18] at he
 split at he
 ·rename_i hi
  obtain ⟨h1,h2⟩:=h i e he
  refine ⟨h1,fun j x hx=>?_⟩
  obtain ⟨c,g1,g2,g3⟩:=h2 j x hx
  refine ⟨c,?_,g2,g3⟩
  rw [lx61 (lx22.1 g1).1]
  exact g1
 ·rename_i hi
  obtain ⟨h1,h2⟩:=k _ e he
  refine ⟨h1,fun j x hx=>?_⟩
  obtain ⟨c,g1,g2,g3⟩:=h2 j x hx
  refine ⟨c,?_,g2,g3⟩
  have hi':els.length * esz≤i * esz:=Qw _ (by omega)
  rw [lx62 (by omega)]
  have:(i - els.length) * esz=i * esz - els.length * esz:=Nat.sub_mul _ _ _
  rw [show 0+i * esz+j - cs.length=0+(i - els.length) * esz+j by omega]
  exact g1
theorem Real.weaken {hc:HC} {cs cs':List Value} {base base' esz:Nat} {els:List AV} (h:Real w X hc cs base esz els) (hsub:∀ k v,k < els.length * esz→cs[base+k]?=some v→cs'[base'+k]?=some v):Real w X hc cs' base' esz els:=by
 intro i e he
 obtain ⟨h1,h2⟩:=h i e he
 refine ⟨h1,fun j x hx=>?_⟩
 obtain ⟨c,g1,g2,g3⟩:=h2 j x hx
 have hi:=(lx22.1 he).1
 have hj:j < esz:=WN
 have hm:=DE (esz:=esz) hi
 rw [F0] at g1
 refine ⟨c,?_,g2,g3⟩
 rw [F0]
 exact hsub _ _ (by omega) g1
theorem Ts (hs:SR w X loc s a) {o:Oper} {B:Blk} {H':List Blk} {id:Nat} {q:Option Addr}
  (hH:H'[id]?=some B) (hne:∀ k,k≠id→H'[k]?=s.H[k]?) (h1:B.live=true) (h2:B.ver=s.cnt) (h3:B.els=[])
  (hrun:(execOp a.eval o).run P w=.ok (.value (.slice q 0 0)) w):
  KQ P w X loc s a o (St.put { s with H:=H',cnt:=s.cnt+1 } o.dst (.sl id s.cnt 0 0)):=by
 have ev1:Evo w X (s.hc loc) w X ⟨fun k=>if k=id then none else loc k,H',s.cnt+1⟩:=by
  refine ⟨rfl,rfl,rfl,Av _,fun _ _ _=>rfl,fun _ _ h=>h,fun _ _=>Iff.rfl,by simp [St.hc],?_,?_⟩
  ·intro k B1 k1 k2 k3
   by_cases hk:k=id
   ·subst hk
    simp only at k1
    rw [hH] at k1; cases k1
    simp only [St.hc] at k3; omega
   ·simp only at k1
    rw [hne k hk] at k1
    exact ⟨B1,k1,k2,rfl,by simp [hk,St.hc],rfl,rfl,rfl⟩
  ·intro k B1 b o' k1 k2 k3 k4
   by_cases hk:k=id
   ·simp [hk] at k3
   ·simp only [hk,lx9] at k3
    simp only at k1
    rw [hne k hk] at k1
    exact ⟨B1,o',k1,k2,k3⟩
 have hr1:HR w X ⟨fun k=>if k=id then none else loc k,H',s.cnt+1⟩:=by
  refine ⟨?_,?_,hs.hr.lt⟩
  ·intro k B1 k1 k2
   by_cases hk:k=id
   ·subst hk
    simp only at k1
    rw [hH] at k1; cases k1
    simp [h2,h3]
   ·simp only at k1
    rw [hne k hk] at k1
    exact hs.hr.rest ev1 k1 k2 (by simp [hk,St.hc]) (fun _ _ _=>rfl) (fun _ h=>h)
  ·intro k k' B1 B2 b o1 o2 k1 k2 k3 k4 k5 k6
   by_cases hk:k=id
   ·simp [hk] at k5
   ·by_cases hk':k'=id
    ·simp [hk'] at k6
    ·simp only [hk,hk',lx9] at k5 k6
     simp only at k1 k2
     rw [hne k hk] at k1
     rw [hne k' hk'] at k2
     exact hs.hr.inj k k' B1 B2 b o1 o2 k1 k2 k3 k4 k5 k6
 refine ⟨.value (.slice q 0 0),.slice q 0 0,w,X,(fun k=>if k=id then none else loc k),hrun,.inl rfl,?_,?_⟩
 ·have base:SR w X (fun k=>if k=id then none else loc k) { s with H:=H',cnt:=s.cnt+1 } a:=⟨hr1,hs.tm.mono ev1 hs.hr,hs.df⟩
  refine base.put o.dst ?_
  refine .sl ⟨_,_,rfl⟩ ?_
  intro hc1 he
  cases he
  exact ⟨by simp [St.hc],fun B k1 k2 k3=>⟨by simp,.inl ⟨rfl,q,rfl⟩⟩⟩
 ·cases hd:o.dst <;> exact ev1
theorem Ahd {o:Oper} {args:Array Operand} {ats:Array TypeId} (ho:o.op=.call { callee:=.builtin .append,args:=args,argTypes:=ats }) (hs:SR w X loc s a) {s':St}
  (h:Aw P s (.call { callee:=.builtin .append,args:=args,argTypes:=ats }) o.dst=some s'):KQ P w X loc s a o s':=by
 simp only [Aw] at h
 split at h
 rotate_left
 ·cases h
 rename_i t t' x y hat har
 split at h
 rotate_left
 ·cases h
 rename_i htt
 subst htt
 have hat':ats=#[t,t]:=Acp
 have har':args=#[x,y]:=Acq
 subst hat'; subst har'
 split at h
 rotate_left
 ·cases h
 rename_i d htd
 obtain ⟨ti,u,f1,f2,f3,f4,f5,f6,f7,f8,f9⟩:=Bl htd
 split at h
 rotate_left
 ·cases h
 rename_i el hel hlen
 have hu:=f7 el hel hlen
 subst hu
 split at h
 rotate_left
 ·cases h
 rename_i de hde
 obtain ⟨ei,eu,e1,e2,e3,e4,e5,_⟩:=Bl hde
 split at h
 rotate_left
 ·cases h
 rename_i z ys hz hys
 split at h
 rotate_left
 ·cases h
 rename_i hh
 obtain ⟨c1,c2,c3,c4⟩:=hh
 have hx:=BV hs.tm x
 have hy:=BV hs.tm y
 obtain ⟨p,pcap,news,n1,n2,n3,n4,n5,n6⟩:=Ak9 hs hy hys c1 c4
 have hz':ei.zero=some z:=by rw [e5,hz]
 have n3':news.length=ys.length * ei.size:=by rw [e3]; exact n3
 have hexec:∀ {v:Value} {w':World},(Builtin.append_ #[t,t] o.type #[a.eval x,a.eval y]).run P w=.ok v w'→(execOp a.eval o).run P w=.ok (.value v) w':=by
  intro v w' hr
  exact Ayb
 have hpop:=Tm hs.hr (H':=BQ s.H (ev s.T y)) (cnt':=s.cnt) (fun id B h _=>Ahc s.H _ id B h) (Av _)
 have hs1:SR w X loc { s with H:=BQ s.H (ev s.T y) } a:=⟨hpop.1,hs.tm.mono hpop.2 hs.hr,hs.df⟩
 have n4':Real w X (St.hc { s with H:=BQ s.H (ev s.T y) } loc) news 0 de.sz ys:=n4.mono hpop.2 hs.hr
 have trans1:∀ {s':St},KQ P w X loc { s with H:=BQ s.H (ev s.T y) } a o s'→KQ P w X loc s a o s':=by
  rintro s' ⟨n,c,w',X',loc',k1,k2,k3,k4⟩
  exact ⟨n,c,w',X',loc',k1,k2,k3,hpop.2.trans k4⟩
 have hcapmax:∀ need old,need≤140737488355328→grownCap w need old el≤maxLen:=fun need old hn=>grownCap_le_maxLen w need old el (by simp only [maxLen]; omega)
 split at h
 ·
  rename_i hev
  split at h
  rotate_left
  ·cases h
  rename_i hby
  cases h
  rw [hev] at hx
  generalize hq:a.eval x=c0 at hx
  cases hx with
  | vw1 f hne=>exact absurd rfl hne
  | @vw0 _ _ q cap hzz hmax=>
   have Cc:cap=0:=hzz rfl
   subst Cc
   have hyl:ys.length≤140737488355328:=by have:=Nat.le_mul_of_pos_right ys.length c2; omega
   refine trans1 ?_
   by_cases hm:ys.length=0
   ·have hys0:ys=[]:=lx60 hm
    subst hys0
    have hr:=Jm (P:=P) (w:=w) (t:=t) (ty:=o.type) f2 e1 (q:=q) (fun _ _=>.inr trivial) (p:=p) (c:=pcap)
    simp only [lx63] at n1
    rw [←n1,←hq] at hr
    have hr':(Builtin.append_ #[t,t] o.type #[a.eval x,a.eval y]).run P w=.ok (.slice q 0 0) w:=by rw [hr,hq]
    clear hr
    have hr:=hr'
    refine Ts hs1 (id:=(BQ s.H (ev s.T y)).length) (B:=⟨true,s.cnt,el,de.sz,[],false⟩) (by simp) (fun k hk=>?_) rfl rfl rfl (hexec hr)
    rw [lx18]
    split
    ·rfl
    ·rename_i h
     rw [lx30,lx30]
     ·simp only at hk ⊢; omega
     ·simp; omega
   ·have hr:=G7 (P:=P) (w:=w) (t:=t) (ty:=o.type) f2 e1 hz' (q:=q) (sLen:=0) (sCap:=0) (olds:=[]) (by simp) (.inl rfl) (p:=p) (m:=ys.length) (c:=pcap) n3' n6 (by omega) (by omega)
     (by rw [e4]; exact growslice_fits (by omega) (by simpa using hby))
    rw [←hq,←n1] at hr
    simp only [CL] at hr
    refine Kq hs1 (id:=(BQ s.H (ev s.T y)).length) (B:=⟨true,s.cnt,el,de.sz,ys,false⟩) (cells:=(#[]:Array Value)++news.toArray++Builtin.zeroCells z.cells (grownCap w ys.length 0 el - ys.length))
     (w':=w.drew.alloc (.cells ((#[]:Array Value)++news.toArray++Builtin.zeroCells z.cells (grownCap w ys.length 0 el - ys.length)) el)) (c:=.slice (some ⟨w.heap.size,0,none⟩) ys.length (grownCap w ys.length 0 el))
     rfl rfl rfl rfl (by simp) (fun k hk=>?_) rfl rfl (by simpa [Dl] using hyl) ?_ ?_ (hexec hr) (.inl rfl)
    ·rw [lx18]
     split
     ·rfl
     ·rename_i h
      rw [lx30,lx30]
      ·simp only at hk ⊢; omega
      ·simp; omega
    ·exact Bd4
    ·refine NH (B:=⟨true,s.cnt,el,de.sz,ys,false⟩) (s:={ s with H:=BQ s.H (ev s.T y) }) (cells:=(#[]:Array Value)++news.toArray++Builtin.zeroCells z.cells (grownCap w ys.length 0 el - ys.length))
      rfl (by simp) rfl (by simp) (grownCap_ge w _ _ _) (hcapmax _ _ hyl) ?_
     exact Bd3
 ·
  rename_i id ver lo len hev
  split at h
  rotate_left
  ·cases h
  rename_i B hl
  split at h
  rotate_left
  ·cases h
  rename_i hcond
  obtain ⟨b1,b2,b3⟩:=hcond
  cases h
  refine trans1 ?_
  have hx1:=hx.mono hpop.2 hs.hr
  rw [hev] at hx1
  obtain ⟨g1,g2,g3⟩:=Bc hl
  have htot:len+ys.length≤140737488355328:=by have:=Nat.le_mul_of_pos_right (len+ys.length) c2; omega
  generalize hq:a.eval x=c0 at hx1
  have hBk:=hs1.hr.blk id B g1 g2
  have hidlt:id < (BQ s.H (ev s.T y)).length:=(lx22.1 g1).1
  have hset:∀ B':Blk,((BQ s.H (ev s.T y)).set id B')[id]?=some B':=fun B'=>by simp [hidlt]
  have hsetne:∀ (B':Blk) k,k≠id→((BQ s.H (ev s.T y)).set id B')[k]?=(BQ s.H (ev s.T y))[k]?:=fun B' k hk=>by rw [lx51 (Ne.symm hk)]
  cases hx1 with
  | sl q1 q2=>
   obtain ⟨r1,r2⟩:=q2 _ rfl
   obtain ⟨r3,r4⟩:=r2 B g1 g2 g3
   have hlenA:((B.els.drop lo).take len).length=len:=F6
   have hlenB:((B.els.drop lo).take len++ys).length≤Dl:=by rw [lx7,hlenA]; exact htot
   rcases r4 with ⟨r4,q,hqv⟩ | ⟨b,base,cap,nn,hloc,k1,k2,k3,k4,k5⟩
   ·subst r4
    by_cases hm:ys.length=0
    ·have hys0:ys=[]:=lx60 hm
     subst hys0
     have hr:=Jm (P:=P) (w:=w) (t:=t) (ty:=o.type) f2 e1 (q:=q) (fun _ _=>.inr trivial) (p:=p) (c:=pcap)
     simp only [lx63] at n1
     rw [←n1,←hqv,←hq] at hr
     have hr':(Builtin.append_ #[t,t] o.type #[a.eval x,a.eval y]).run P w=.ok (.slice q 0 0) w:=by rw [hr,hq,hqv]
     clear hr
     have hr:=hr'
     exact Ts hs1 (id:=id) (B:=⟨true,s.cnt,el,de.sz,List.take 0 (List.drop lo B.els)++[],false⟩) (hset _) (hsetne _) rfl rfl (by simp) (hexec hr)
    ·have hr:=G7 (P:=P) (w:=w) (t:=t) (ty:=o.type) f2 e1 hz' (q:=q) (sLen:=0) (sCap:=0) (olds:=[]) (by simp) (.inl rfl) (p:=p) (m:=ys.length) (c:=pcap) n3' n6 (by omega) (by omega)
      (by rw [e4]; exact growslice_fits (by omega) (by simpa using b3))
     rw [←hqv,←hq,←n1] at hr
     simp only [CL] at hr ⊢
     refine Kq hs1 (id:=id) (B:=⟨true,s.cnt,el,de.sz,List.take 0 (List.drop lo B.els)++ys,false⟩) (cells:=(#[]:Array Value)++news.toArray++Builtin.zeroCells z.cells (grownCap w ys.length 0 el - ys.length))
      (w':=w.drew.alloc (.cells ((#[]:Array Value)++news.toArray++Builtin.zeroCells z.cells (grownCap w ys.length 0 el - ys.length)) el)) (c:=.slice (some ⟨w.heap.size,0,none⟩) ys.length (grownCap w ys.length 0 el))
      rfl rfl rfl rfl (hset _) (hsetne _) rfl rfl hlenB ?_ ?_ (hexec hr) (.inl rfl)
     ·simp only [lx42,lx64]
      exact Bd4
     ·refine NH (B:=⟨true,s.cnt,el,de.sz,List.take 0 (List.drop lo B.els)++ys,false⟩) (s:={ s with H:=BQ s.H (ev s.T y) }) (cells:=(#[]:Array Value)++news.toArray++Builtin.zeroCells z.cells (grownCap w ys.length 0 el - ys.length))
       rfl (hset _) rfl (by simp) (grownCap_ge w _ _ _) (hcapmax _ _ (by omega)) ?_
      exact Bd3
   ·have hB2:=hBk.2.2
    have hloc':(St.hc { s with H:=BQ s.H (ev s.T y) } loc).loc id=some (b,base):=hloc
    rw [hloc'] at hB2
    obtain ⟨m1,⟨cs,m2⟩,m3⟩:=hB2
    have hnn:nn=cs.size:=by
     exact Ayo
    subst hnn
    have hreal:Real w X (St.hc { s with H:=BQ s.H (ev s.T y) } loc) cs.toList base B.esz B.els:=m3.real m2
    have hseg:=hreal.seg r3
    rw [b1] at hseg k5 k1
    have hcapz:(lo+cap) * de.sz=lo * de.sz+cap * de.sz:=Gx _ _ _
    have hlz:len * de.sz≤cap * de.sz:=Qw _ k2
    have hseglen:((cs.toList.drop (base+lo * de.sz)).take (len * de.sz)).length=((B.els.drop lo).take len).length * de.sz:=by rw [hlenA]; simp; omega
    have happ:Real w X (St.hc { s with H:=BQ s.H (ev s.T y) } loc) ((cs.toList.drop (base+lo * de.sz)).take (len * de.sz)++news) 0 de.sz ((B.els.drop lo).take len++ys):=hseg.append hseglen n4'
    have hmz:(len+ys.length) * de.sz=len * de.sz+ys.length * de.sz:=Gx _ _ _
    by_cases hroom:len+ys.length≤cap
    ·have hrz:(len+ys.length) * de.sz≤cap * de.sz:=Qw _ hroom
     have hfit:base+lo * de.sz+len * de.sz+news.length≤cs.size:=by rw [n3]; omega
     have hr:=SW (P:=P) (w:=w) (t:=t) (ty:=o.type) f2 e1 (b:=b) (o:=base+lo * de.sz) (sLen:=len) (sCap:=cap) m2 (p:=p) (m:=ys.length) (c:=pcap) n3' n6 n5 hroom (by rw [e3]; exact hfit)
     rw [←k1,←hq,←n1,e3] at hr
     have hfit':base+lo * de.sz+len * de.sz+news.length≤cs.toList.length:=by simpa using hfit
     obtain ⟨u1,u2⟩:=QU hs1.hr id B ⟨true,s.cnt,el,de.sz,(B.els.drop lo).take len++ys,false⟩ b base (base+lo * de.sz) (s.cnt+1) cs (Bx cs.toList (base+lo * de.sz+len * de.sz) news).toArray
      g1 g2 hloc m2 (by simp only [lx55]; rw [Ft _ _ _ hfit']; simp) b2.symm rfl hlenB (.inr ⟨rfl,rfl⟩) (by
       refine happ.weaken ?_
       intro k v hk hv
       simp only
       rw [Dr _ _ _ hfit']
       rw [CL] at hv
       by_cases hkl:k < len * de.sz
       ·rw [if_neg (by omega)]
        rw [lx61 (by rw [hseglen,hlenA]; exact hkl),lx19,if_pos hkl,lx20] at hv
        exact hv
       ·rw [lx62 (by rw [hseglen,hlenA]; omega),hseglen,hlenA] at hv
        have hvl:=(lx22.1 hv).1
        rw [if_pos (by omega),show base+lo * de.sz+k - (base+lo * de.sz+len * de.sz)=k - len * de.sz by omega]
        exact hv)
     refine ⟨.value (.slice (some ⟨b,base+lo * de.sz,none⟩) (len+ys.length) cap),.slice (some ⟨b,base+lo * de.sz,none⟩) (len+ys.length) cap,_,X,(fun k=>if k=id then some (b,base+lo * de.sz) else loc k),hexec hr,.inl rfl,?_,?_⟩
     ·have base':SR (w.setRow b (Bx cs.toList (base+lo * de.sz+len * de.sz) news).toArray) X (fun k=>if k=id then some (b,base+lo * de.sz) else loc k)
        { s with H:=(BQ s.H (ev s.T y)).set id ⟨true,s.cnt,el,de.sz,(B.els.drop lo).take len++ys,false⟩,cnt:=s.cnt+1 } a:=⟨u1,hs1.tm.mono u2 hs1.hr,hs.df⟩
      refine base'.put o.dst ?_
      refine .sl ⟨_,_,rfl⟩ ?_
      intro hc1 he
      cases he
      refine ⟨by simp [St.hc],fun B' z1 z2 z3=>?_⟩
      simp only [St.hc] at z1
      rw [hset] at z1
      cases z1
      refine ⟨by simp [hlenA],.inr ⟨b,base+lo * de.sz,cap,cs.size,by simp [St.hc],by simp,hroom,k3,?_,?_⟩⟩
      ·have:=u2.shape _ _ k4
       rw [b2] at this
       exact this
      ·simp only [CL]; omega
     ·cases hd:o.dst <;> exact u2
    ·have holds:∀ j u,((cs.toList.drop (base+lo * de.sz)).take (len * de.sz))[j]?=some u→w.cell? ⟨b,base+lo * de.sz+j,none⟩=some u:=by
      intro j u hu
      rw [lx19] at hu
      split at hu
      ·rw [lx20] at hu
       rw [Cm m2]; exact hu
      ·cases hu
     have hr:=G7 (P:=P) (w:=w) (t:=t) (ty:=o.type) f2 e1 hz' (q:=some ⟨b,base+lo * de.sz,none⟩) (sLen:=len) (sCap:=cap) (olds:=(cs.toList.drop (base+lo * de.sz)).take (len * de.sz))
      (by rw [hseglen,hlenA,e3]) (.inr ⟨b,base+lo * de.sz,rfl,holds⟩) (p:=p) (m:=ys.length) (c:=pcap) n3' n6 (by omega) (by omega) (by rw [e4]; exact growslice_fits (by omega) b3)
     rw [←k1,←hq,←n1] at hr
     have hgl:((cs.toList.drop (base+lo * de.sz)).take (len * de.sz)).length=len * de.sz:=by rw [hseglen,hlenA]
     refine Kq hs1 (id:=id) (B:=⟨true,s.cnt,el,de.sz,(B.els.drop lo).take len++ys,false⟩)
      (cells:=((cs.toList.drop (base+lo * de.sz)).take (len * de.sz)).toArray++news.toArray++Builtin.zeroCells z.cells (grownCap w (len+ys.length) cap el - (len+ys.length)))
      (w':=w.drew.alloc (.cells (((cs.toList.drop (base+lo * de.sz)).take (len * de.sz)).toArray++news.toArray++Builtin.zeroCells z.cells (grownCap w (len+ys.length) cap el - (len+ys.length))) el))
      (c:=.slice (some ⟨w.heap.size,0,none⟩) (len+ys.length) (grownCap w (len+ys.length) cap el))
      rfl rfl rfl rfl (hset _) (hsetne _) rfl rfl hlenB ?_ ?_ (hexec hr) (.inl rfl)
     ·refine happ.weaken ?_
      intro k v _ hk
      have hlt:=(lx22.1 hk).1
      simp only [Array.toList_append]
      rw [lx61 (by simpa using hlt)]
      exact hk
     ·refine NH (B:=⟨true,s.cnt,el,de.sz,(B.els.drop lo).take len++ys,false⟩) (s:={ s with H:=BQ s.H (ev s.T y) })
       (cells:=((cs.toList.drop (base+lo * de.sz)).take (len * de.sz)).toArray++news.toArray++Builtin.zeroCells z.cells (grownCap w (len+ys.length) cap el - (len+ys.length)))
       rfl (hset _) rfl (by simp [hlenA]) (grownCap_ge w _ _ _) (hcapmax _ _ htot) ?_
      have:=grownCap_ge w (len+ys.length) cap el
      simp only [Array.size_append,lx55,size_zeroCells,c3,n3,hgl,←Gx]
      exact Qw _ (by omega)
 ·cases h
theorem JJ {t t' ty e:TypeId} {i:TypeInfo} (ht:P.underlying t=some (.slice e)) (hi:P.info? e=some i)
  {b o dLen dCap:Nat} {cur:Array Value} {ety:TypeId} (hg:w.heap[b]?=some (.cells cur ety (0,0)))
  {p:Option Addr} {m c:Nat} {news:List Value} (hl:news.length=Nat.min m dLen * i.size)
  (hsrc:Nat.min m dLen=0∨∃ b o,p=some ⟨b,o,none⟩∧∀ j u,news[j]?=some u→w.cell? ⟨b,o+j,none⟩=some u) (h1:∀ u ∈ news,u.oneCell'=true)
  (hfit:o+news.length≤cur.size):
  (Builtin.copy_ #[t,t'] ty #[.slice (some ⟨b,o,none⟩) dLen dCap,.slice p m c]).run P w=.ok (.int .i64 (Nat.min m dLen:Nat)) (w.setRow b (Bx cur.toList o news).toArray):=by
 have hf:=Fh (P:=P) (cap:=c) hl hsrc m
 have hst:=run_storeCells_at P b o ety news 0 cur w hg (by simpa using hfit) h1
 simp only [Gl] at hst
 simp [Builtin.copy_,run_underlying ht,sizeOf,typeInfo,hi,Builtin.lenOf,hf,hst,Bx,goInt]
theorem SY {t t' ty e:TypeId} {i:TypeInfo} (ht:P.underlying t=some (.slice e)) (hi:P.info? e=some i) {q p:Option Addr} {m c:Nat}:
  (Builtin.copy_ #[t,t'] ty #[.slice q 0 0,.slice p m c]).run P w=.ok (.int .i64 0) w:=by
 have hf:=Fh (P:=P) (w:=w) (p:=p) (cap:=c) (news:=[]) (size:=i.size) (m:=0) (by simp) (.inl rfl) m
 cases q <;> simp [Builtin.copy_,run_underlying ht,sizeOf,typeInfo,hi,Builtin.lenOf,hf,goInt,storeCells]
theorem Real.take {hc:HC} {cs:List Value} {esz n:Nat} {els:List AV} (h:Real w X hc cs 0 esz els):Real w X hc (cs.take (n * esz)) 0 esz (els.take n):=by
 intro i e he
 rw [lx19] at he
 split at he
 ·rename_i hi
  obtain ⟨h1,h2⟩:=h i e he
  refine ⟨h1,fun j x hx=>?_⟩
  obtain ⟨c,g1,g2,g3⟩:=h2 j x hx
  refine ⟨c,?_,g2,g3⟩
  have hj:j < esz:=WN
  have:=DE (esz:=esz) hi
  rw [lx19,if_pos (by omega)]
  exact g1
 ·cases he
theorem Real.over {hc:HC} {cs news:List Value} {base esz lo:Nat} {els ys:List AV} (h:Real w X hc cs base esz els) (k:Real w X hc news 0 esz ys) (hn:news.length=ys.length * esz)
  (hlo:lo+ys.length≤els.length) (hfit:base+lo * esz+news.length≤cs.length):
  Real w X hc (Bx cs (base+lo * esz) news) base esz (els.take lo++ys++els.drop (lo+ys.length)):=by
 have hl1:(els.take lo).length=lo:=F6
 intro i e he
 have out:els[i]?=some e→(i < lo∨lo+ys.length≤i)→e.cells.length=esz∧∀ j a,e.cells[j]?=some a→∃ c,(Bx cs (base+lo * esz) news)[base+i * esz+j]?=some c∧c.oneCell'=true∧VR w X (some hc) a c:=by
  intro he' hi
  obtain ⟨h1,h2⟩:=h i e he'
  refine ⟨h1,fun j x hx=>?_⟩
  have hj:j < esz:=WN
  obtain ⟨c,g1,g2,g3⟩:=h2 j x hx
  refine ⟨c,?_,g2,g3⟩
  rw [Dr _ _ _ hfit,if_neg]
  ·exact g1
  ·rcases hi with hi | hi
   ·have:=DE (esz:=esz) hi; omega
   ·have:=Qw esz hi
    rw [Gx] at this; omega
 rw [lx6,lx18,hl1] at he
 split at he
 ·rename_i hi
  rw [lx19,if_pos hi] at he
  exact out he (.inl hi)
 ·rename_i hi
  rw [lx18] at he
  split at he
  ·rename_i hi2
   obtain ⟨h1,h2⟩:=k _ e he
   refine ⟨h1,fun j x hx=>?_⟩
   have hj:j < esz:=WN
   obtain ⟨c,g1,g2,g3⟩:=h2 j x hx
   refine ⟨c,?_,g2,g3⟩
   have hlt:=(lx22.1 g1).1
   have hsub:(i - lo) * esz=i * esz - lo * esz:=Nat.sub_mul _ _ _
   have hle:lo * esz≤i * esz:=Qw _ (by omega)
   rw [Dr _ _ _ hfit,if_pos (by omega),show base+i * esz+j - (base+lo * esz)=0+(i - lo) * esz+j by omega]
   exact g1
  ·rename_i hi2
   rw [lx20] at he
   rw [show lo+ys.length+(i - lo - ys.length)=i by omega] at he
   exact out he (.inr (by omega))
theorem Aqx {o:Oper} {args:Array Operand} {ats:Array TypeId} (ho:o.op=.call { callee:=.builtin .copy,args:=args,argTypes:=ats }) (hs:SR w X loc s a) {s':St}
  (h:Aw P s (.call { callee:=.builtin .copy,args:=args,argTypes:=ats }) o.dst=some s'):KQ P w X loc s a o s':=by
 simp only [Aw] at h
 split at h
 rotate_left
 ·cases h
 rename_i t t' x y hat har
 have hat':ats=#[t,t']:=Acp
 have har':args=#[x,y]:=Acq
 subst hat'; subst har'
 split at h
 rotate_left
 ·cases h
 rename_i d htd
 obtain ⟨ti,u,f1,f2,f3,f4,f5,f6,f7,f8,f9⟩:=Bl htd
 split at h
 rotate_left
 ·cases h
 rename_i el hel hlen
 have hu:=f7 el hel hlen
 subst hu
 split at h
 rotate_left
 ·cases h
 rename_i de hde
 obtain ⟨ei,eu,e1,e2,e3,e4,e5,_⟩:=Bl hde
 split at h
 rotate_left
 ·cases h
 rename_i id ver lo len ys hev hys
 split at h
 rotate_left
 ·cases h
 rename_i B hl
 split at h
 rotate_left
 ·cases h
 rename_i hh
 obtain ⟨c1,c2,c3⟩:=hh
 cases h
 have hx:=BV hs.tm x
 have hy:=BV hs.tm y
 rw [hev] at hx
 obtain ⟨p,pcap,news,n1,n2,n3,n4,n5,n6⟩:=Ak9 hs hy hys c1 c3
 obtain ⟨g1,g2,g3⟩:=Bc hl
 generalize hq:a.eval x=c0 at hx
 have hBk:=hs.hr.blk id B g1 g2
 have hexec:∀ {v:Value} {w':World},(Builtin.copy_ #[t,t'] o.type #[a.eval x,a.eval y]).run P w=.ok v w'→(execOp a.eval o).run P w=.ok (.value v) w':=by
  intro v w' hr
  exact Ayb
 have hmin:(ys.take (min ys.length len)).length=min ys.length len:=AZ
 cases hx with
 | sl q1 q2=>
  obtain ⟨r1,r2⟩:=q2 _ rfl
  obtain ⟨r3,r4⟩:=r2 B g1 g2 g3
  rcases r4 with ⟨r4,q,hqv⟩ | ⟨b,base,cap,nn,hloc,k1,k2,k3,k4,k5⟩
  ·subst r4
   have hr:=SY (P:=P) (w:=w) (t:=t) (t':=t') (ty:=o.type) f2 e1 (q:=q) (p:=p) (m:=ys.length) (c:=pcap)
   rw [←n1,←hqv,←hq] at hr
   have hsame:s.H.set id { B with els:=B.els.take lo++ys.take (min ys.length 0)++B.els.drop (lo+min ys.length 0) }=s.H:=by
    apply lx65
    intro k
    rw [lx21]
    split
    ·rename_i hk
     subst hk
     simp only [Nat.min_zero,lx42,lx66,Gl,lx67]
     rw [g1]
     simp [(lx22.1 g1).1]
    ·rfl
   refine ⟨.value (.int .i64 0),.int .i64 0,w,X,loc,hexec hr,.inl rfl,?_,?_⟩
   ·rw [hsame]
    simp only [Nat.min_zero]
    exact hs.put o.dst (.sc rfl)
   ·rw [hsame]
    cases hd:o.dst <;> exact Evo.refl _ _ _
  ·have hB2:=hBk.2.2
   have hloc':(s.hc loc).loc id=some (b,base):=hloc
   rw [hloc'] at hB2
   obtain ⟨m1,⟨cs,m2⟩,m3⟩:=hB2
   have hnn:nn=cs.size:=by
    exact Ayo
   subst hnn
   have hreal:Real w X (s.hc loc) cs.toList base B.esz B.els:=m3.real m2
   rw [c2] at hreal k5 k1
   have hcapz:(lo+cap) * de.sz=lo * de.sz+cap * de.sz:=Gx _ _ _
   have hlz:min ys.length len * de.sz≤cap * de.sz:=Qw _ (by omega)
   have hmz:min ys.length len * de.sz≤ys.length * de.sz:=Qw _ (by omega)
   have hnl:(news.take (min ys.length len * de.sz)).length=min ys.length len * de.sz:=by rw [lx68,n3]; omega
   have hfit:base+lo * de.sz+(news.take (min ys.length len * de.sz)).length≤cs.size:=by rw [hnl]; omega
   have hr:=JJ (P:=P) (w:=w) (t:=t) (t':=t') (ty:=o.type) f2 e1 (b:=b) (o:=base+lo * de.sz) (dLen:=len) (dCap:=cap) m2 (p:=p) (m:=ys.length) (c:=pcap) (news:=news.take (min ys.length len * de.sz))
    (by rw [hnl,e3])
    (by
     rcases n6 with n6 | ⟨b2,o2,n6,n7⟩
     ·left; show min ys.length len=0; omega
     ·right
      refine ⟨b2,o2,n6,fun j u hu=>?_⟩
      rw [lx19] at hu
      split at hu
      ·exact n7 j u hu
      ·cases hu)
    (fun u hu=>n5 u (lx38 hu)) hfit
   rw [←k1,←hq,←n1] at hr
   have hfit':base+lo * de.sz+(news.take (min ys.length len * de.sz)).length≤cs.toList.length:=by simpa using hfit
   have hov:=hreal.over (n4.take (n:=min ys.length len)) (by rw [hnl,hmin]) (lo:=lo) (by rw [hmin]; omega) hfit'
   rw [hmin] at hov
   obtain ⟨u1,u2⟩:=QU hs.hr id B { B with els:=B.els.take lo++ys.take (min ys.length len)++B.els.drop (lo+min ys.length len) } b base base s.cnt cs (Bx cs.toList (base+lo * de.sz) (news.take (min ys.length len * de.sz))).toArray
    g1 g2 hloc m2 (by simp only [lx55]; rw [Ft _ _ _ hfit']; simp) rfl g2
    (by have:=hBk.2.1; simp; omega) (.inl ⟨rfl,rfl,by simp; omega,rfl,rfl⟩) (by rw [←c2] at hov ⊢; exact hov)
   refine ⟨.value (.int .i64 (Nat.min ys.length len:Nat)),.int .i64 (Nat.min ys.length len:Nat),_,X,(fun k=>if k=id then some (b,base) else loc k),hexec hr,.inl rfl,?_,?_⟩
   ·have base':SR (w.setRow b (Bx cs.toList (base+lo * de.sz) (news.take (min ys.length len * de.sz))).toArray) X (fun k=>if k=id then some (b,base) else loc k)
      { s with H:=s.H.set id { B with els:=B.els.take lo++ys.take (min ys.length len)++B.els.drop (lo+min ys.length len) } } a:=⟨u1,hs.tm.mono u2 hs.hr,hs.df⟩
    exact base'.put o.dst (.sc rfl)
   ·cases hd:o.dst <;> exact u2
theorem Ahe {t ty e:TypeId} {i:TypeInfo} {z:Value} (ht:P.underlying t=some (.slice e)) (hi:P.info? e=some i) (hz:i.zero=some z)
  {b o n c:Nat} {cur:Array Value} {ety:TypeId} (hg:w.heap[b]?=some (.cells cur ety (0,0))) (hn:0 < n)
  (h1:∀ u ∈ (Builtin.zeroCells z.cells n).toList,u.oneCell'=true)
  (hfit:o+(Builtin.zeroCells z.cells n).size≤cur.size):
  (Builtin.clear_ #[t] ty #[.slice (some ⟨b,o,none⟩) n c]).run P w=.ok (.tuple #[]) (w.setRow b (Bx cur.toList o (Builtin.zeroCells z.cells n).toList).toArray):=by
 have hst:=run_storeCells_at P b o ety (Builtin.zeroCells z.cells n).toList 0 cur w hg (by simpa using hfit) h1
 simp only [Gl] at hst
 obtain ⟨m,rfl⟩:∃ m,n=m+1:=⟨n - 1,by omega⟩
 have hzero:∀ w:World,(zeroValue e).run P w=.ok z w:=fun w=>EK (by rw [EM,hi]; simp [hz])
 simp [Builtin.clear_,run_underlying ht,hzero,hst,Bx]
theorem QV {t ty e:TypeId} (ht:P.underlying t=some (.slice e)) {q:Option Addr} {c:Nat}:
  (Builtin.clear_ #[t] ty #[.slice q 0 c]).run P w=.ok (.tuple #[]) w:=by
 cases q <;> simp [Builtin.clear_,run_underlying ht]
theorem Aka {o:Oper} {args:Array Operand} {ats:Array TypeId} (ho:o.op=.call { callee:=.builtin .clear,args:=args,argTypes:=ats }) (hs:SR w X loc s a) {s':St}
  (h:Aw P s (.call { callee:=.builtin .clear,args:=args,argTypes:=ats }) o.dst=some s'):KQ P w X loc s a o s':=by
 simp only [Aw] at h
 split at h
 rotate_left
 ·cases h
 rename_i t x hat har
 have hat':ats=#[t]:=Acp
 have har':args=#[x]:=Acq
 subst hat'; subst har'
 split at h
 rotate_left
 ·cases h
 rename_i d htd
 obtain ⟨ti,u,f1,f2,f3,f4,f5,f6,f7,f8,f9⟩:=Bl htd
 split at h
 rotate_left
 ·cases h
 rename_i el hel hlen
 have hu:=f7 el hel hlen
 subst hu
 split at h
 rotate_left
 ·cases h
 rename_i de hde
 obtain ⟨ei,eu,e1,e2,e3,e4,e5,_⟩:=Bl hde
 split at h
 rotate_left
 ·cases h
 rename_i z id ver lo len hz hev
 split at h
 rotate_left
 ·cases h
 rename_i B hl
 split at h
 rotate_left
 ·cases h
 rename_i hh
 obtain ⟨c1,c2,c3,c4⟩:=hh
 cases h
 have hx:=BV hs.tm x
 rw [hev] at hx
 obtain ⟨g1,g2,g3⟩:=Bc hl
 generalize hq:a.eval x=c0 at hx
 have hBk:=hs.hr.blk id B g1 g2
 have hexec:∀ {v:Value} {w':World},(Builtin.clear_ #[t] o.type #[a.eval x]).run P w=.ok v w'→(execOp a.eval o).run P w=.ok (.value v) w':=by
  intro v w' hr
  exact Ayb
 have htu:∀ (w:World) (X:Nat→Prop) (o:Option HC),VR w X o (.tu []) (.tuple #[]):=fun w X o=>.tu rfl (fun i a v ha _=>by simp at ha)
 cases hx with
 | sl q1 q2=>
  obtain ⟨r1,r2⟩:=q2 _ rfl
  obtain ⟨r3,r4⟩:=r2 B g1 g2 g3
  by_cases hlen0:len=0
  ·subst hlen0
   have hsame:s.H.set id { B with els:=B.els.take lo++List.replicate 0 (Ax z)++B.els.drop (lo+0) }=s.H:=by
    apply lx65
    intro k
    rw [lx21]
    split
    ·rename_i hk
     subst hk
     simp only [List.replicate_zero,lx66,Gl,lx67]
     rw [g1]
     simp [(lx22.1 g1).1]
    ·rfl
   have hend:∀ {q:Option Addr} {c:Nat},a.eval x=.slice q 0 c→KQ P w X loc s a o (St.put { s with H:=s.H.set id { B with els:=B.els.take lo++List.replicate 0 (Ax z)++B.els.drop (lo+0) } } o.dst (.tu [])):=by
    intro q c hqc
    have hr:=QV (P:=P) (w:=w) (t:=t) (ty:=o.type) f2 (q:=q) (c:=c)
    rw [←hqc] at hr
    rw [hsame]
    refine ⟨.value (.tuple #[]),.tuple #[],w,X,loc,hexec hr,.inl rfl,hs.put o.dst (htu _ _ _),?_⟩
    cases hd:o.dst <;> exact Evo.refl _ _ _
   rcases r4 with ⟨_,q,hqv⟩ | ⟨b,base,cap,nn,hloc,k1,k2,k3,k4,k5⟩
   ·exact hend (hq.trans hqv)
   ·exact hend (hq.trans k1)
  ·rcases r4 with ⟨r4,q,hqv⟩ | ⟨b,base,cap,nn,hloc,k1,k2,k3,k4,k5⟩
   ·exact absurd r4 hlen0
   have hB2:=hBk.2.2
   have hloc':(s.hc loc).loc id=some (b,base):=hloc
   rw [hloc'] at hB2
   obtain ⟨m1,⟨cs,m2⟩,m3⟩:=hB2
   have hnn:nn=cs.size:=by
    exact Ayo
   subst hnn
   have hreal:Real w X (s.hc loc) cs.toList base B.esz B.els:=m3.real m2
   rw [c2] at hreal k5 k1
   have hzok:=G6 (w:=w) (X:=X) (o:=some (s.hc loc)) z
   obtain ⟨z1,z2⟩:=hzok.cells_ok c3
   have hzs:z.cells.size=de.sz:=by rw [←c4,z1.1]; simp
   have hcapz:(lo+cap) * de.sz=lo * de.sz+cap * de.sz:=Gx _ _ _
   have hlz:len * de.sz≤cap * de.sz:=Qw _ (by omega)
   have hnl:(Builtin.zeroCells z.cells len).size=len * de.sz:=by rw [size_zeroCells,hzs]
   have hfit:base+lo * de.sz+(Builtin.zeroCells z.cells len).size≤cs.size:=by rw [hnl]; omega
   have hcell1:∀ i j,i < len→j < de.sz→(Builtin.zeroCells z.cells len).toList[i * de.sz+j]?=z.cells.toList[j]?:=by
    intro i j hi hj
    rw [←hzs] at hj ⊢
    exact NG (by omega) hj
   have hone:∀ u ∈ (Builtin.zeroCells z.cells len).toList,u.oneCell'=true:=by
    intro u hu
    obtain ⟨k,hk,rfl⟩:=lx69 hu
    have hk':k < len * de.sz:=by simpa [hnl] using hk
    have hi:k / de.sz < len:=Nat.div_lt_of_lt_mul (by rw [Nat.mul_comm]; exact hk')
    have hj:k % de.sz < de.sz:=Nat.mod_lt _ c1
    have:=hcell1 _ _ hi hj
    rw [Nat.mul_comm,Nat.div_add_mod,lx50 hk] at this
    exact z2 _ (lx25 this.symm)
   have hr:=Ahe (P:=P) (w:=w) (t:=t) (ty:=o.type) f2 e1 (z:=z) (by simp [e5,hz]) (b:=b) (o:=base+lo * de.sz) (n:=len) (c:=cap) m2 (by omega) hone hfit
   rw [←k1,←hq] at hr
   have hrow:Real w X (s.hc loc) (Builtin.zeroCells z.cells len).toList 0 de.sz (List.replicate len (Ax z)):=by
    have:=Real.replicate hzok c3 (n:=len) (cells:=(Builtin.zeroCells z.cells len).toList) (fun i j hi hj=>by
     rw [c4] at hj ⊢
     exact hcell1 i j hi hj)
    rw [c4] at this
    exact this
   have hfit':base+lo * de.sz+(Builtin.zeroCells z.cells len).toList.length≤cs.toList.length:=by simpa using hfit
   have hov:=hreal.over hrow (by simp [hnl]) (lo:=lo) (by simp; omega) hfit'
   rw [List.length_replicate] at hov
   obtain ⟨u1,u2⟩:=QU hs.hr id B { B with els:=B.els.take lo++List.replicate len (Ax z)++B.els.drop (lo+len) } b base base s.cnt cs (Bx cs.toList (base+lo * de.sz) (Builtin.zeroCells z.cells len).toList).toArray
    g1 g2 hloc m2 (by simp only [lx55]; rw [Ft _ _ _ hfit']; simp) rfl g2
    (by have:=hBk.2.1; simp; omega) (.inl ⟨rfl,rfl,by simp; omega,rfl,rfl⟩) (by rw [←c2] at hov ⊢; exact hov)
   refine ⟨.value (.tuple #[]),.tuple #[],_,X,(fun k=>if k=id then some (b,base) else loc k),hexec hr,.inl rfl,?_,?_⟩
   ·have base':SR (w.setRow b (Bx cs.toList (base+lo * de.sz) (Builtin.zeroCells z.cells len).toList).toArray) X (fun k=>if k=id then some (b,base) else loc k)
      { s with H:=s.H.set id { B with els:=B.els.take lo++List.replicate len (Ax z)++B.els.drop (lo+len) } } a:=⟨u1,hs.tm.mono u2 hs.hr,hs.df⟩
    exact base'.put o.dst (htu _ _ _)
   ·cases hd:o.dst <;> exact u2
theorem Akb {o:Oper} (hs:SR w X loc s a) {s':St} (h:Aw P s o.op o.dst=some s'):KQ P w X loc s a o s':=by
 cases ho:o.op with
 | box t x=>rw [ho] at h; exact Ayz ho hs h
 | alloc t=>rw [ho] at h; exact Ak7 ho hs h
 | store t x y=>rw [ho] at h; exact Ak8 ho hs h
 | buildSlice t n parts=>rw [ho] at h; exact SV ho hs h
 | makeSlice t x y=>rw [ho] at h; exact Va ho hs h
 | call c=>
  rw [ho] at h
  obtain ⟨callee,args,ats⟩:=c
  cases callee with
  | builtin b=>
   cases b with
   | append=>exact Ahd ho hs h
   | copy=>exact Aqx ho hs h
   | clear=>exact Aka ho hs h
   | _=>simp [Aw] at h
  | value f=>simp [Aw] at h
  | invoke r m=>simp [Aw] at h
 | _=>rw [ho] at h; simp [Aw] at h
def IF:Op→Bool
 | .alloc _ | .makeSlice .. | .buildSlice ..=>true
 | _=>false
theorem Tt {o:Oper} (hl:IF o.op=true) (hs:SR w X loc s a) {s':St} (h:Aw P s o.op o.dst=some s'):HsNew P w X loc s a o s':=by
 cases ho:o.op with
 | alloc t=>rw [ho] at h; exact Tn ho hs h
 | buildSlice t n parts=>rw [ho] at h; exact JI ho hs h
 | makeSlice t x y=>rw [ho] at h; exact KX ho hs h
 | _=>rw [ho] at hl; simp [IF] at hl
end
end Go.SX
