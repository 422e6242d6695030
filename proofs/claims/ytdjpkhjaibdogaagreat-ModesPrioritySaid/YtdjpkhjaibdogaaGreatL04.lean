/-
  Lemmas towards ModesPriority (joined texts: SX4, SX5).
  Conditions: none.
-/
import Derived.Test.YtdjpkhjaibdogaaGreatL01
import Derived.Test.YtdjpkhjaibdogaaGreatL03
import Derived.Laws.Tables
set_option linter.unusedSimpArgs false
set_option linter.unusedVariables false
set_option maxRecDepth 100000
namespace Go.SX
open Go.RowKit (Below)
section
variable {P:Program} {w:World} {X:Nat→Prop} {loc:Nat→Option (Nat × Nat)} {s:St} {a:Act} {v:AV}
def H9 (P:Program) (w:World) (X:Nat→Prop) (hc:HC) (a:Act) (o:Oper) (v:AV):Prop:=
 ∃ c,rd P (execOp a.eval o) w=some (.value c)∧VR w X (some hc) v c
theorem rdv {x:Sem Value} {c:Value} (h:rd P x w=some c):rd P (do pure (Next.value (←x)):Sem Next) w=some (.value c):=by
 rw [Ah,h]; rfl
theorem L8 {t:Sem Value} {u:Value} (h:Bh P t=some u) {o:Oper} (he:execOp a.eval o=(do pure (Next.value (←t)):Sem Next)):H9 P w X (s.hc loc) a o (LX u):=
 ⟨u,by rw [he]; exact rdv (QJ h w),U4 u⟩
theorem Ad1 {t:TypeId} {d:TyD} (ht:AR P t=some d) {o:Option HC} {cs:List AV} {vs:List Value} (hv:VL w X o cs vs) (h1:∀ u ∈ vs,u.oneCell'=true) {off:Nat} {r:AV} (h:DZ d cs off=some r):
  ∃ c,rd P (part t vs.toArray off) w=some c∧VR w X o r c:=by
 unfold DZ at h
 unfold part
 simp only [Ah,WT ht,lx17]
 split at h
 ·rename_i hag
  split at h
  ·rename_i hl
   cases h
   have hlen:=hv.1
   refine ⟨.agg ((vs.drop off).take d.sz).toArray,?_,.ag ?_ ?_ ?_⟩
   ·simp only [hag,lx8,Ah,Hx ht,lx17,Al]
    congr 2
    apply Array.ext'
    simp
   ·simp; omega
   ·exact ((hv.drop off).take d.sz).2
   ·intro u hu
    exact h1 u (List.mem_of_mem_drop (lx38 hu))
  ·cases h
 ·rename_i hag
  obtain ⟨c,g1,g2⟩:=hv.get h
  refine ⟨c,?_,g2⟩
  simp only [hag,lx9,DD]
  simp only [lx39,g1,Al]
theorem Ad2 {o:Oper} {t:TypeId} {x:Operand} (ho:o.op=.load t x) (hs:SR w X loc s a) (h:Ay P s (.load t x)=some v):H9 P w X (s.hc loc) a o v:=by
 have hx:=BV hs.tm x
 simp only [Ay] at h
 split at h
 ·rename_i d id ver i off htd hev
  split at h
  ·rename_i B hl
   split at h
   ·rename_i e he
    rw [hev] at hx
    obtain ⟨b,base,h1,h2,h3,h4,h5⟩:=Gy hs.hr hx hl
    obtain ⟨c,g1,g2⟩:=Ad0 (w:=w) (X:=X) (o:=some (s.hc loc)) htd (cs:=e.cells) (b:=b) (p:=base+i * B.esz) (off:=off)
     (f:=fun j=>(w.cell? ⟨b,base+i * B.esz+j,none⟩).getD undef) (h5.fn he) h
    refine ⟨c,?_,g2⟩
    unfold execOp
    simp only [ho,Instr.loadAt,h2]
    exact rdv (by simpa [Instr.sureAddr,Ah,Al] using g1)
   ·cases h
  ·cases h
 ·rename_i d es i off htd hev
  split at h
  ·rename_i e he
   split at h
   ·rename_i r hr
    split at h
    ·rename_i hn
     cases h
     rw [hev] at hx
     generalize hq:a.eval x=c0 at hx
     cases hx with
     | @vp _ es i off b base esz f hX hb hsz hc hv=>
      have hi:i < es.length:=(lx22.1 he).1
      have hmem:=lx25 he
      obtain ⟨c,g1,g2⟩:=Ad0 (w:=w) (X:=X) (o:=none) htd (cs:=e.cells) (b:=b) (p:=base+i * esz) (off:=off)
       (f:=f i) (fun j u hu=>by
        have hj:j < e.cells.length:=(lx22.1 hu).1
        rw [hsz e hmem] at hj
        exact ⟨(hc i j hi hj).1,(hc i j hi hj).2,hv i e j u he hu⟩) hr
      refine ⟨c,?_,F7 _ hn g2⟩
      unfold execOp
      simp only [ho,Instr.loadAt,hq]
      exact rdv (by simpa [Instr.sureAddr,Ah,Al] using g1)
    ·cases h
   ·cases h
  ·cases h
 ·cases h
theorem WU {o:Oper} {x:Operand} (ho:o.op=.nilCheck x) (hs:SR w X loc s a) (h:Ay P s (.nilCheck x)=some v):H9 P w X (s.hc loc) a o v:=by
 have hx:=BV hs.tm x
 simp only [Ay] at h
 split at h
 ·rename_i id ver i off hev
  split at h
  ·rename_i B hl
   cases h
   rw [hev] at hx
   obtain ⟨b,base,h1,h2,_⟩:=Gy hs.hr hx hl
   refine ⟨_,?_,hx⟩
   unfold execOp
   simp only [ho,h2]; rfl
  ·cases h
 ·rename_i es i off hev
  exact Bdj
 ·rename_i f cs hev
  exact Bdj
 ·cases h
theorem Ti (H:List Blk) (u:AV):Bp (L6 H u)=Bp u:=by
 cases u with
 | sl id ver lo n=>
  simp only [L6]
  cases AJ H id ver with
  | none=>rfl
  | some B=>
   simp only [Aqs]
   split <;> rfl
 | _=>rfl
theorem Ak2 {o:Oper} {op:BinOp} {t t':TypeId} {x y:Operand} (ho:o.op=.binOp op t x y t') (hs:SR w X loc s a) (h:Ay P s (.binOp op t x y t')=some v):H9 P w X (s.hc loc) a o v:=by
 have hx:=BV hs.tm x
 have hy:=BV hs.tm y
 simp only [Ay] at h
 split at h
 ·rename_i u1 u2 h1 h2
  rw [Ti] at h1
  split at h
  ·rename_i r hr
   cases h
   refine L8 hr ?_
   unfold execOp
   simp only [ho,EO _ h1 hx,EO _ h2 hy]
  ·cases h
 ·unfold Ah5 at h
  split at h
  rotate_left
  ·cases h
  rename_i y' hyy
  have hsl:QK P t=true:=by
   cases hq:QK P t with
   | true=>rfl
   | false=>rw [hq] at h; simp [WS] at h
  obtain ⟨e,hu⟩:∃ e,P.underlying t=some (.slice e):=by
   unfold QK at hsl
   split at hsl
   ·rename_i e he; exact ⟨e,he⟩
   ·cases hsl
  rw [hsl] at h
  generalize hq:a.eval x=c1 at hx
  obtain ⟨b,hb⟩:∃ b,JH (L6 s.H (ev s.T x))=some b:=by
   cases hq2:JH (L6 s.H (ev s.T x)) with
   | some b=>exact ⟨b,rfl⟩
   | none=>rw [hq2] at h; simp [WS] at h
  rw [hb] at h
  obtain ⟨ad,l,cp,hc1,hadb⟩:∃ ad l cp,c1=.slice ad l cp∧ad.isNone=b:=by
   generalize ev s.T x=u at hx hb
   by_cases hsl2:L6 s.H u=u
   rotate_left
   ·cases u with
    | sl id ver lo n=>
     simp only [L6] at hb hsl2
     cases hlv:AJ s.H id ver with
     | none=>rw [hlv] at hsl2; exact absurd rfl hsl2
     | some B=>
      rw [hlv] at hb hsl2
      simp only [Aqs] at hb hsl2
      split at hb
      ·rename_i hn; rw [if_pos hn] at hsl2; exact absurd rfl hsl2
      ·rename_i hn
       cases hb
       obtain ⟨g1,g2,g3⟩:=Bc hlv
       cases hx with
       | sl q1 q2=>
        obtain ⟨_,r2⟩:=q2 _ rfl
        obtain ⟨_,r4⟩:=r2 B g1 g2 g3
        rcases r4 with ⟨r4,_⟩ | ⟨_,_,_,_,_,k1,_⟩
        ·exact absurd r4 hn
        ·exact ⟨_,_,_,k1,rfl⟩
    | _=>exact absurd rfl hsl2
   rw [hsl2] at hb
   unfold JH at hb
   split at hb
   ·cases hb
    cases hx with
    | vw1 f hne=>exact ⟨_,_,_,rfl,rfl⟩
   ·cases hb; cases hx; exact ⟨_,_,_,rfl,rfl⟩
   ·cases hb; cases hx; exact ⟨_,_,_,rfl,rfl⟩
   ·cases hb
  have heq:rd P (Op.equal t c1 (.slice none 0 0)) w=some b:=by
   subst hc1
   have h1:rd P (underlying t) w=some (.slice e):=by rw [Ar,hu]
   have h2:Op.equal t (.slice ad l cp) (.slice none 0 0)=Op.equalIn 10000 t (.slice ad l cp) (.slice none 0 0):=rfl
   rw [h2]
   unfold Op.equalIn
   rw [Ah,h1]
   subst hadb
   cases ad <;> rfl
  have hyv:a.eval (.const (.slice none 0 0))=.slice none 0 0:=rfl
  cases op with
  | eql=>
   simp only [WS,lx16] at h
   subst h
   refine ⟨.bool b,?_,.sc rfl⟩
   unfold execOp
   simp only [ho,hq,hyv]
   rw [Ah]
   have hg:rd P (eqGuard .eql t x (.const (.slice none 0 0)) c1 (.slice none 0 0)) w=some ():=by
    subst hc1; rfl
   rw [Ah,hg]
   subst hc1
   have hbo:binOp .eql t (.slice ad l cp) (.slice none 0 0)=(do pure (.bool (←Op.equal t (.slice ad l cp) (.slice none 0 0))):Sem Value):=rfl
   simp only [lx17]
   rw [hbo,Ah,heq]
   rfl
  | neq=>
   simp only [WS,lx16] at h
   subst h
   refine ⟨.bool (!b),?_,.sc rfl⟩
   unfold execOp
   simp only [ho,hq,hyv]
   rw [Ah]
   have hg:rd P (eqGuard .neq t x (.const (.slice none 0 0)) c1 (.slice none 0 0)) w=some ():=by
    subst hc1; rfl
   rw [Ah,hg]
   subst hc1
   have hbo:binOp .neq t (.slice ad l cp) (.slice none 0 0)=(do pure (.bool (!(←Op.equal t (.slice ad l cp) (.slice none 0 0)))):Sem Value):=rfl
   simp only [lx17]
   rw [hbo,Ah,heq]
   rfl
  | _=>simp [WS] at h
theorem Aqt {o:Oper} {op:UnOp} {t:TypeId} {x:Operand} (ho:o.op=.unOp op t x) (hs:SR w X loc s a) (h:Ay P s (.unOp op t x)=some v):H9 P w X (s.hc loc) a o v:=by
 have hx:=BV hs.tm x
 simp only [Ay] at h
 split at h
 ·rename_i u1 h1
  split at h
  ·rename_i r hr
   cases h
   refine L8 hr ?_
   unfold execOp
   simp only [ho,EO _ h1 hx]
  ·cases h
 ·cases h
theorem Aao {o:Oper} {t t':TypeId} {x:Operand} (ho:o.op=.convert t t' x) (hs:SR w X loc s a) (h:Ay P s (.convert t t' x)=some v):H9 P w X (s.hc loc) a o v:=by
 have hx:=BV hs.tm x
 simp only [Ay] at h
 split at h
 ·rename_i u1 h1
  split at h
  ·rename_i r hr
   cases h
   refine L8 hr ?_
   unfold execOp
   simp only [ho,EO _ h1 hx]
  ·cases h
 ·cases h
theorem Ad3 {o:Oper} {x:Operand} (ho:o.op=.move x∨o.op=.assign x) (hs:SR w X loc s a):H9 P w X (s.hc loc) a o (ev s.T x):=by
 refine ⟨a.eval x,?_,BV hs.tm x⟩
 unfold execOp
 rcases ho with ho | ho <;> simp only [ho,Al]
theorem Aqu {o:Oper} {c x y:Operand} (ho:o.op=.pick c x y) (hs:SR w X loc s a) (h:Ay P s (.pick c x y)=some v):H9 P w X (s.hc loc) a o v:=by
 have hc:=BV hs.tm c
 have hx:=BV hs.tm x
 have hy:=BV hs.tm y
 simp only [Ay] at h
 split at h
 ·rename_i t hev
  cases h
  rw [hev] at hc
  generalize hq:a.eval c=u at hc
  cases hc
  refine ⟨if t=true then a.eval x else a.eval y,?_,?_⟩
  ·unfold execOp
   simp only [ho,hq,asBool]
   cases t <;> rfl
  ·cases t
   ·exact hy
   ·exact hx
 ·cases h
theorem L9 {t:TypeId} {d:TyD} (ht:AR P t=some d) {f off ft:Nat} (hf:d.flds[f]?=some (off,ft)):
  ∃ fs fd,P.underlying t=some (.struct fs)∧fs[f]?=some fd∧fd.offset=off∧fd.type=ft:=by
 unfold AR at ht
 split at ht
 ·rename_i i fs h1 h2
  cases ht
  simp only [lx23,lx24,lx40] at hf
  obtain ⟨fd,g1,g2,g3⟩:=hf
  exact ⟨fs,fd,h2,by simpa using g1,g2,g3⟩
 all_goals (cases ht; try (simp at hf))
theorem SU {ft:Field} {d:TyD} (ht:AR P ft.type=some d) (hz:d.sz≠0) (b p:Nat):rd P (fieldPlace ⟨b,p,none⟩ ft) w=some ⟨b,p+ft.offset,none⟩:=by
 unfold fieldPlace
 simp only [Ah,Hx ht,lx17,hz,lx9,F8,Al]
theorem U5 {o:Oper} {t:TypeId} {x:Operand} {f:Nat} (ho:o.op=.fieldAddr t x f) (hs:SR w X loc s a) (h:Ay P s (.fieldAddr t x f)=some v):H9 P w X (s.hc loc) a o v:=by
 have hx:=BV hs.tm x
 simp only [Ay] at h
 split at h
 rotate_left
 ·cases h
 rename_i d htd
 split at h
 rotate_left
 ·cases h
 rename_i off ft hf
 split at h
 rotate_left
 ·cases h
 rename_i df hdf
 split at h
 ·cases h
 rename_i hz
 obtain ⟨fs,fd,e1,e2,e3,e4⟩:=L9 htd hf
 subst e3; subst e4
 have key:∀ b p,a.eval x=.pointer (some ⟨b,p,none⟩)→rd P (execOp a.eval o) w=some (.value (.pointer (some ⟨b,p+fd.offset,none⟩))):=by
  intro b p hq
  unfold execOp
  simp only [ho,hq]
  refine rdv ?_
  unfold Instr.fieldAt
  simp only [Ah,Ar,e1,lx17,e2,Instr.sureAddr,Al,SU hdf hz]
 split at h
 ·rename_i id ver i o' hev
  split at h
  ·rename_i B hl
   cases h
   rw [hev] at hx
   obtain ⟨b,base,h1,h2,_⟩:=Gy hs.hr hx hl
   refine ⟨_,key _ _ h2,.pt rfl ?_⟩
   intro hc1 he
   cases he
   generalize hq:a.eval x=c0 at hx
   cases hx with
   | pt g1 g2=>
    exact Bcp
  ·cases h
 ·rename_i es i o' hev
  cases h
  rw [hev] at hx
  generalize hq:a.eval x=c0 at hx
  cases hx with
  | vp fn hX hb hsz hc hv=>
   refine ⟨_,key _ _ hq,?_⟩
   have:=VR.vp (o:=some (s.hc loc)) (i:=i) (off:=o'+fd.offset) fn hX hb hsz hc hv
   rw [←F0] at this
   exact this
 ·cases h
theorem Ak3 {o:Oper} {t:TypeId} {x:Operand} {f:Nat} (ho:o.op=.field t x f) (hs:SR w X loc s a) (h:Ay P s (.field t x f)=some v):H9 P w X (s.hc loc) a o v:=by
 have hx:=BV hs.tm x
 simp only [Ay] at h
 split at h
 rotate_left
 ·cases h
 rename_i d htd
 split at h
 rotate_left
 ·cases h
 rename_i off ft hf
 split at h
 rotate_left
 ·cases h
 rename_i df hdf
 obtain ⟨fs,fd,e1,e2,e3,e4⟩:=L9 htd hf
 subst e3; subst e4
 split at h
 ·rename_i cs hev
  rw [hev] at hx
  generalize hq:a.eval x=c0 at hx
  cases hx with
  | @ag _ _ vs hl h1 h2=>
   obtain ⟨c,g1,g2⟩:=Ad1 (w:=w) hdf ⟨hl,h1⟩ h2 h
   refine ⟨c,?_,g2⟩
   unfold execOp
   simp only [ho,hq]
   refine rdv ?_
   unfold Instr.field
   simp only [Ah,Ar,e1,lx17,e2,asAgg,Al,g1]
 ·cases h
theorem Aap {o:Oper} {x:Operand} {i:Nat} (ho:o.op=.extract x i) (hs:SR w X loc s a) (h:Ay P s (.extract x i)=some v):H9 P w X (s.hc loc) a o v:=by
 have hx:=BV hs.tm x
 simp only [Ay] at h
 split at h
 ·rename_i vs hev
  rw [hev] at hx
  generalize hq:a.eval x=c0 at hx
  cases hx with
  | @tu _ _ us hl h1=>
   obtain ⟨c,g1,g2⟩:=VL.get ⟨hl,h1⟩ h
   refine ⟨c,?_,g2⟩
   unfold execOp
   simp only [ho,hq]
   refine rdv ?_
   unfold Instr.extract
   simp only [lx39,g1,Al]
 ·cases h
theorem WV {o:Oper} {f:FuncId} {first caps:Array Operand} (ho:o.op=.makeFunc (.func f) first caps) (hs:SR w X loc s a) (h:Ay P s (.makeFunc (.func f) first caps)=some v):H9 P w X (s.hc loc) a o v:=by
 simp only [Ay] at h
 split at h
 ·rename_i hf
  cases h
  rw [Array.isEmpty_iff] at hf
  subst hf
  refine ⟨.func (.func f) #[] (caps.toList.map a.eval).toArray,?_,?_⟩
  ·unfold execOp
   simp only [ho]
   refine rdv ?_
   have e:Array.map a.eval caps=(List.map a.eval caps.toList).toArray:=Array.ext' (by simp)
   simp only [Instr.makeFunc,Al,e,Array.map_empty]
  ·have:=Aan hs.tm caps.toList
   exact .fn this.1 this.2
 ·cases h
theorem Av8 {es:List AV} {d:Nat} (h:es.all (fun e=>e.cells.length=d)=true):∀ e ∈ es,e.cells.length=d:=by
 intro e he
 have:=lx28.1 h e he
 simpa using this
theorem U6 {o:Oper} {t:TypeId} {x i:Operand} (ho:o.op=.indexAddr t x i) (hs:SR w X loc s a) (h:Ay P s (.indexAddr t x i)=some v):H9 P w X (s.hc loc) a o v:=by
 have hx:=BV hs.tm x
 have hi:=BV hs.tm i
 simp only [Ay] at h
 split at h
 rotate_left
 ·cases h
 rename_i d htd
 split at h
 rotate_left
 ·cases h
 rename_i el hel
 split at h
 rotate_left
 ·cases h
 rename_i de hde
 obtain ⟨ti,u,f1,f2,f3,f4,f5,f6,f7,f8,f9⟩:=Bl htd
 have keyS:∀ b p len cap k n,u=.slice el→a.eval x=.slice (some ⟨b,p,none⟩) len cap→a.eval i=.int k n→0≤n→n < (len:Int)→
   rd P (execOp a.eval o) w=some (.value (.pointer (some ⟨b,p+n.toNat * de.sz,none⟩))):=by
  intro b p len cap k n hu e1 e2 h0 h1
  subst hu
  unfold execOp
  simp only [ho,e1,e2]
  refine rdv ?_
  unfold Instr.indexAt
  simp only [Ah,asIntOf,Al,lx17,Ar,f2,h0,h1,and_self,lx8,Hx hde,F8]
 have keyA:∀ b p m k n,u=.array m el→a.eval x=.pointer (some ⟨b,p,none⟩)→a.eval i=.int k n→0≤n→n < (m:Int)→
   rd P (execOp a.eval o) w=some (.value (.pointer (some ⟨b,p+n.toNat * de.sz,none⟩))):=by
  intro b p m k n hu e1 e2 h0 h1
  subst hu
  unfold execOp
  simp only [ho,e1,e2]
  refine rdv ?_
  unfold Instr.indexAt
  simp only [Ah,asIntOf,Al,lx17,Ar,f2,Instr.sureAddr,h0,h1,and_self,lx8,Hx hde,F8]
 split at h
 ·rename_i z es k n hlen hev hiv
  rw [hiv] at hi
  generalize hqi:a.eval i=c1 at hi
  cases hi
  split at h
  ·rename_i e he
   split at h
   ·rename_i hsz0
    cases h
    split at he
    ·rename_i h0
     rw [hev] at hx
     generalize hq:a.eval x=c0 at hx
     have hlt:n.toNat < es.length:=(lx22.1 he).1
     cases hx with
     | vw0 hz hm=>simp at he
     | @vw1 _ _ _ b base cap esz f hne hX hb hcap hz hmax hsz hc hv=>
      have hes:esz=de.sz:=(hsz e (lx25 he)).symm.trans hsz0
      subst hes
      refine ⟨_,keyS b base es.length cap k n (f7 el hel hlen) hq hqi h0 (by omega),?_⟩
      have:=VR.vp (o:=some (s.hc loc)) (i:=n.toNat) (off:=0) f hX hb hsz hc hv
      simpa using this
    ·cases he
   ·cases h
  ·cases h
 ·rename_i id ver lo len k n hlen hev hiv
  rw [hiv] at hi
  generalize hqi:a.eval i=c1 at hi
  cases hi
  split at h
  ·rename_i B hl
   split at h
   ·rename_i hh
    cases h
    obtain ⟨h0,h1,h2⟩:=hh
    rw [hev] at hx
    obtain ⟨g1,g2,g3⟩:=Bc hl
    generalize hq:a.eval x=c0 at hx
    cases hx with
    | sl q1 q2=>
     obtain ⟨r1,r2⟩:=q2 _ rfl
     obtain ⟨r3,r4⟩:=r2 B g1 g2 g3
     rcases r4 with ⟨r4,_⟩ | ⟨b,base,cap,nn,hloc,k1,k2,k3,k4,k5⟩
     ·omega
     ·refine ⟨_,keyS b (base+lo * B.esz) len cap k n (f7 el hel hlen) (by rw [hq,k1]) hqi h0 h1,?_⟩
      refine .pt rfl ?_
      intro hc1 he1
      cases he1
      refine ⟨r1,fun B' p1 p2 p3=>?_⟩
      have:B'=B:=Option.some.inj (p1.symm.trans g1)
      subst this
      refine ⟨b,base,hloc,?_⟩
      rw [←h2,Gx]
      simp only [F0,Gl]
   ·cases h
  ·cases h
 ·rename_i m id ver k0 off k n hlen hev hiv
  rw [hiv] at hi
  generalize hqi:a.eval i=c1 at hi
  cases hi
  split at h
  ·rename_i B hl
   split at h
   ·rename_i hh
    cases h
    rw [hev] at hx
    obtain ⟨b,base,h1,h2,_⟩:=Gy hs.hr hx hl
    refine ⟨_,keyA b _ m k n (f8 el m hel hlen) h2 hqi hh.1 hh.2,?_⟩
    refine .pt rfl ?_
    intro hc1 he
    cases he
    generalize hq:a.eval x=c0 at hx
    cases hx with
    | pt g1 g2=>
     exact Bcp
   ·cases h
  ·cases h
 ·rename_i m es k0 off k n hlen hev hiv
  rw [hiv] at hi
  generalize hqi:a.eval i=c1 at hi
  cases hi
  split at h
  ·rename_i hh
   cases h
   rw [hev] at hx
   generalize hq:a.eval x=c0 at hx
   cases hx with
   | vp fn hX hb hsz hc hv=>
    refine ⟨_,keyA _ _ m k n (f8 el m hel hlen) hq hqi hh.1 hh.2,?_⟩
    have:=VR.vp (o:=some (s.hc loc)) (i:=k0) (off:=off+n.toNat * de.sz) fn hX hb hsz hc hv
    rw [←F0] at this
    exact this
  ·cases h
 ·cases h
theorem Ak4 {o:Oper} {t:TypeId} {x i:Operand} (ho:o.op=.index t x i) (hs:SR w X loc s a) (h:Ay P s (.index t x i)=some v):H9 P w X (s.hc loc) a o v:=by
 have hx:=BV hs.tm x
 have hi:=BV hs.tm i
 simp only [Ay] at h
 split at h
 rotate_left
 ·cases h
 rename_i d htd
 obtain ⟨ti,u,f1,f2,f3,f4,f5,f6,f7,f8,f9⟩:=Bl htd
 split at h
 ·rename_i el m hel hlen
  split at h
  rotate_left
  ·cases h
  rename_i de hde
  split at h
  ·rename_i cs k n hev hiv
   split at h
   ·rename_i hh
    rw [hiv] at hi
    generalize hqi:a.eval i=c1 at hi
    cases hi
    rw [hev] at hx
    generalize hq:a.eval x=c0 at hx
    have hu:=f8 el m hel hlen
    subst hu
    cases hx with
    | @ag _ _ vs hl h1 h2=>
     obtain ⟨c,g1,g2⟩:=Ad1 (w:=w) hde ⟨hl,h1⟩ h2 h
     refine ⟨c,?_,g2⟩
     unfold execOp
     simp only [ho,hq,hqi]
     refine rdv ?_
     unfold Instr.index
     simp only [Ah,asIntOf,Al,lx17,Ar,f2,hh,and_self,lx8,Hx hde,g1]
   ·cases h
  ·cases h
 ·split at h
  ·rename_i u1 u2 h1 h2
   split at h
   ·rename_i r hr
    cases h
    refine L8 hr ?_
    unfold execOp
    simp only [ho,EO _ h1 hx,EO _ h2 hi]
   ·cases h
  ·cases h
 ·cases h
theorem Ma {n:Int} {hi hi' r:Nat} (h:Oz n hi=some r) (hle:hi≤hi') (k:IntKind) (code:BoundsCode):rd P (Instr.sliceBound (.int k n) hi' code) w=some r∧r≤hi:=by
 unfold Oz at h
 split at h
 ·rename_i hh
  cases h
  have h2:n≤(hi':Int):=An
  unfold Instr.sliceBound
  simp only [Ah,asIntOf,Al,lx17,hh.1,h2,and_self,lx8]
  exact ⟨trivial,by omega⟩
 ·cases h
theorem GY (hs:SR w X loc s a) {x:Option Operand} {d hi hi' r:Nat} (hd:d≤hi) (hle:hi≤hi') (h:AS s.T x d hi=some r):
  r≤hi∧match x.map a.eval with
   | some v=>∀ code,rd P (Instr.sliceBound v hi' code) w=some r
   | none=>r=d:=by
 cases x with
 | none=>simp only [AS,lx16] at h; subst h; exact ⟨hd,rfl⟩
 | some x=>
  have hx:=BV hs.tm x
  simp only [AS] at h
  split at h
  ·rename_i k n hev
   rw [hev] at hx
   generalize hq:a.eval x=c0 at hx
   cases hx
   refine ⟨(Ma (P:=P) (w:=w) h hle k .index).2,?_⟩
   simp only [lx34,hq]
   exact fun code=>(Ma (P:=P) (w:=w) h hle k code).1
  ·cases h
theorem C8 (hs:SR w X loc s a) {L cap:Nat} {lo hi mx:Option Operand} {m h l:Nat} (hcap:L≤cap) (hm:AS s.T mx L L=some m) (hh:AS s.T hi L m=some h)
  (hxh:mx.isSome=true→hi.isSome=true) (hl:AS s.T lo 0 h=some l):
  rd P (Instr.sliceBounds true L cap (lo.map a.eval) (hi.map a.eval) (mx.map a.eval)) w=some (l,h,if mx.isSome=true then m else cap)∧l≤h∧h≤m∧m≤L:=by
 obtain ⟨m1,m2⟩:=GY (P:=P) hs (Av L) hcap hm
 have hLm:mx=none→m=L:=by intro e; subst e; exact m2
 cases mx with
 | none=>
  have:=hLm rfl
  subst this
  obtain ⟨h1,h2⟩:=GY (P:=P) hs (Av m) hcap hh
  obtain ⟨l1,l2⟩:=GY (P:=P) hs (Bq h) (Av h) hl
  refine ⟨?_,l1,h1,m1⟩
  unfold Instr.sliceBounds
  cases hi with
  | none=>
   simp only [Option.map_none] at h2
   subst h2
   cases lo with
   | none=>simp only [Option.map_none] at l2; subst l2; simp [Ah,EL,Al]
   | some lo=>simp only [lx34] at l2; simp [Ah,EL,Al,l2]
  | some hi=>
   simp only [lx34] at h2
   cases lo with
   | none=>simp only [Option.map_none] at l2; subst l2; simp [Ah,EL,Al,h2]
   | some lo=>simp only [lx34] at l2; simp [Ah,EL,Al,h2,l2]
 | some mx=>
  cases hi with
  | none=>simp at hxh
  | some hi=>
   have hh':AS s.T (some hi) 0 m=some h:=hh
   obtain ⟨h1,h2⟩:=GY (P:=P) hs (Bq m) (Av m) hh'
   obtain ⟨l1,l2⟩:=GY (P:=P) hs (Bq h) (Av h) hl
   refine ⟨?_,l1,h1,m1⟩
   unfold Instr.sliceBounds
   simp only [lx34] at h2 m2
   cases lo with
   | none=>simp only [Option.map_none] at l2; subst l2; simp [Ah,EL,Al,m2,h2]
   | some lo=>simp only [lx34] at l2; simp [Ah,EL,Al,m2,h2,l2]
theorem Pg (hs:SR w X loc s a) {m h:Nat} {hi:Option Operand} (hh:AS s.T hi m m=some h):
  rd P (Instr.sliceBounds false m m none (hi.map a.eval) none) w=some (0,h,m)∧h≤m:=by
 obtain ⟨h1,h2⟩:=GY (P:=P) hs (Av m) (Av m) hh
 refine ⟨?_,h1⟩
 unfold Instr.sliceBounds
 cases hi with
 | none=>simp only [Option.map_none] at h2; subst h2; simp [Ah,EL,Al]
 | some hi=>simp only [lx34] at h2; simp [Ah,EL,Al,h2]
theorem Ah8 {o:Oper} {t:TypeId} {x:Operand} {hi:Option Operand} {d de:TyD} {el m i off h:Nat} {es:List AV} {e:AV} (ho:o.op=.slice t x none hi none) (hs:SR w X loc s a)
  (htd:AR P t=some d) (hel:d.el=some el) (hlen:d.len=some m) (hde:AR P el=some de) (hev:ev s.T x=.vp es i off) (he:es[i]?=some e) (hh:AS s.T hi m m=some h)
  (h1:de.sz=1) (h2:off+m≤e.cells.length) (h3:m≤1000000) (h4:e.cells.all (fun a=>a.cells.length=1)=true):H9 P w X (s.hc loc) a o (.vw false ((e.cells.drop off).take h)):=by
 have hx:=BV hs.tm x
 rw [hev] at hx
 obtain ⟨ti,u,f1,f2,f3,f4,f5,f6,f7,f8,f9⟩:=Bl htd
 have hu:=f8 el m hel hlen
 subst hu
 obtain ⟨b1,b2⟩:=Pg (P:=P) hs hh
 generalize hq:a.eval x=c0 at hx
 have hi':i < es.length:=(lx22.1 he).1
 have hmem:e ∈ es:=lx25 he
 cases hx with
 | @vp _ _ _ _ b base esz f hX hb hsz hc hv=>
  have hes:e.cells.length=esz:=hsz e hmem
  have hrun:rd P (execOp a.eval o) w=some (.value (.slice (some ⟨b,base+i * esz+off,none⟩) h m)):=by
   unfold execOp
   simp only [ho,hq]
   refine rdv ?_
   unfold Instr.sliceAt
   simp only [Option.map_none,Ah,Ar,f2,lx17,Instr.sureAddr,Al,b1,Hx hde,h1,Nat.mul_one,Nat.zero_mul,Nat.sub_zero,F8,Gl]
   split <;> rfl
  refine ⟨_,hrun,?_⟩
  have hl:((e.cells.drop off).take h).length=h:=F6
  by_cases h0:h=0
  ·subst h0
   rw [lx42]
   exact .vw0 (fun h=>by cases h) (by unfold maxLen; omega)
  ·have hone:∀ (k:Nat) (c:AV),e.cells[k]?=some c→c.cells=[c]:=by
    intro k c hk
    have:=lx28.1 h4 c (lx25 hk)
    simp only [Bw] at this
    cases c with
    | ag cs=>
     exfalso
     have hvr:=hv i e k (.ag cs) he hk
     have g:=(hc i k hi' (by rw [←hes]; exact (lx22.1 hk).1)).2
     generalize f i k=v0 at hvr g
     cases hvr
     simp [Value.oneCell'] at g
    | _=>rfl
   have hget:∀ (k:Nat) (c:AV),((e.cells.drop off).take h)[k]?=some c→e.cells[off+k]?=some c:=by
    intro k c hk
    rw [lx19] at hk
    split at hk
    ·rwa [lx20] at hk
    ·cases hk
   have:=VR.vw1 (w:=w) (X:=X) (o:=some (s.hc loc)) (z:=false) (es:=(e.cells.drop off).take h) (b:=b) (base:=base+i * esz+off) (cap:=m) (esz:=1) (fun k _=>f i (off+k))
    (by intro e'; rw [e'] at hl; simp at hl; omega) hX hb (by rw [hl]; exact b2) (fun h=>by cases h) (by unfold maxLen; omega)
    (fun c hcm=>by
     obtain ⟨k,hk⟩:=lx44.1 hcm
     rw [hone _ c (hget k c hk)]; rfl)
    (fun k j hk hj=>by
     have hk':off+k < esz:=by rw [hl] at hk; omega
     have:=hc i (off+k) hi' hk'
     rw [show base+i * esz+off+k * 1+j=base+i * esz+(off+k) by omega]
     exact this)
    (fun k c j u hk hu=>by
     have hk2:=hget k c hk
     rw [hone _ c hk2] at hu
     cases j with
     | zero=>
      simp only [lx45,lx16] at hu
      subst hu
      exact hv i e (off+k) c he hk2
     | succ j=>simp at hu)
   rw [hl] at this
   exact this
theorem QO (hs:SR w X loc s a):∀ {x:Option Operand} {v:Option Value},D8 s.T x=some v→x.map a.eval=v
 | none,v,h=>by simp only [D8,lx16] at h; rw [←h]; rfl
 | some x,v,h=>by
  simp only [D8] at h
  split at h
  ·rename_i u hu
   cases h
   simp only [lx34,EO _ hu (BV hs.tm x)]
  ·cases h
theorem Ak5 {o:Oper} {t:TypeId} {x:Operand} {lo hi mx:Option Operand} (ho:o.op=.slice t x lo hi mx) (hs:SR w X loc s a) (h:Ay P s (.slice t x lo hi mx)=some v):H9 P w X (s.hc loc) a o v:=by
 have hx:=BV hs.tm x
 simp only [Ay] at h
 split at h
 rotate_left
 ·cases h
 rename_i d htd
 obtain ⟨ti,u,f1,f2,f3,f4,f5,f6,f7,f8,f9⟩:=Bl htd
 split at h
 rotate_left
 ·rename_i el m hel hlen
  split at h
  rotate_left
  ·cases h
  rename_i de es i off hde hev
  split at h
  rotate_left
  ·cases h
  rename_i e h' he hh
  split at h
  rotate_left
  ·cases h
  rename_i hcond
  obtain ⟨q1,q2,q3,q4⟩:=hcond
  cases h
  exact Ah8 ho hs htd hel hlen hde hev he hh q1 q2 q3 q4
 ·split at h
  ·rename_i u1 u2 u3 u4 h1 h2 h3 h4
   split at h
   ·rename_i r hr
    cases h
    refine L8 hr ?_
    unfold execOp
    simp only [ho,EO _ h1 hx,QO hs h2,QO hs h3,QO hs h4]
   ·cases h
  ·cases h
 ·cases h
 rename_i el hel hlen
 have hu:=f7 el hel hlen
 subst hu
 split at h
 rotate_left
 ·cases h
 rename_i de hde
 have key:∀ p len cap l hh m,a.eval x=.slice p len cap→rd P (Instr.sliceBounds true len cap (lo.map a.eval) (hi.map a.eval) (mx.map a.eval)) w=some (l,hh,m)→
   rd P (execOp a.eval o) w=some (.value (.slice (if m=l then p else p.map (·.add (l * de.sz))) (hh - l) (m - l))):=by
  intro p len cap l hh m e1 e2
  unfold execOp
  simp only [ho,e1]
  refine rdv ?_
  unfold Instr.sliceAt
  simp only [Ah,Ar,f2,lx17]
  unfold Instr.slice
  simp only [Ah,Ar,f2,lx17,e2,Hx hde,Al]
 split at h
 ·rename_i z es hev
  rw [hev] at hx
  generalize hq:a.eval x=c0 at hx
  split at h
  rotate_left
  ·cases h
  rename_i m hm
  split at h
  rotate_left
  ·cases h
  rename_i h' hh
  split at h
  rotate_left
  ·cases h
  rename_i l hl
  split at h
  rotate_left
  ·cases h
  rename_i hcond
  obtain ⟨hall,hxh⟩:=hcond
  cases h
  have hzz:∀ cap,(z=true→cap=es.length)→h'≤m→m≤es.length→(if mx.isSome=true then decide (m=h') else (z && decide (h'=es.length)))=true→(if mx.isSome=true then m else cap)=h':=by
   intro cap hz _ _ hzt
   split at hzt
   ·rename_i hs'
    rw [if_pos hs']
    simpa using hzt
   ·rename_i hs'
    rw [if_neg hs']
    simp only [AH,Bw] at hzt
    rw [hz hzt.1,hzt.2]
  have hmx:∀ cap,es.length≤cap→m≤es.length→h'≤m→h'≤(if mx.isSome=true then m else cap)∧(if mx.isSome=true then m else cap)≤cap:=by
   intro cap _ _ _
   split <;> omega
  cases hx with
  | @vw0 _ _ p cap hz hmax=>
   obtain ⟨e1,e2,e3,e4⟩:=C8 (P:=P) hs (L:=0) (cap:=cap) (Bq _) hm hh hxh hl
   obtain ⟨n1,n2⟩:=hmx cap (Bq _) e4 e3
   have n3:=hzz cap (by simpa using hz) e3 e4
   have:h'=0:=An
   subst this
   have:l=0:=An
   subst this
   refine ⟨_,key _ _ _ _ _ _ hq e1,?_⟩
   exact .vw0 (fun hzt=>n3 hzt) (by omega)
  | @vw1 _ _ _ b base cap esz f hne hX hb hcap hz hmax hsz hc hv=>
   obtain ⟨e1,e2,e3,e4⟩:=C8 (P:=P) hs (L:=es.length) (cap:=cap) hcap hm hh hxh hl
   obtain ⟨n1,n2⟩:=hmx cap hcap e4 e3
   have n3:=hzz cap hz e3 e4
   have hes:esz=de.sz:=by
    obtain ⟨e,he⟩:=List.exists_mem_of_ne_nil es hne
    exact (hsz e he).symm.trans (Av8 hall e he)
   subst hes
   refine ⟨_,key _ _ _ _ _ _ hq e1,?_⟩
   have hlen2:((es.drop l).take (h' - l)).length=h' - l:=F6
   by_cases hlh:l=h'
   ·subst hlh
    rw [show List.take (l - l) (List.drop l es)=[] by simp,Nat.sub_self]
    exact .vw0 (fun hzt=>by have:=n3 hzt; omega) (by omega)
   ·have hne2:(if mx.isSome=true then m else cap)≠l:=by omega
    rw [if_neg hne2]
    simp only [lx34,F8]
    have:=VR.vw1 (w:=w) (X:=X) (o:=some (s.hc loc)) (z:=if mx.isSome=true then decide (m=h') else (z && decide (h'=es.length)))
     (es:=(es.drop l).take (h' - l)) (b:=b) (base:=base+l * de.sz) (cap:=(if mx.isSome=true then m else cap) - l) (esz:=de.sz) (fun i j=>f (l+i) j)
     (by intro e; rw [e] at hlen2; simp at hlen2; omega) hX hb (by rw [hlen2]; omega) (fun hzt=>by rw [n3 hzt,hlen2]) (by omega)
     (fun e he=>hsz e (List.mem_of_mem_drop (lx38 he)))
     (fun i j hi hj=>by
      have:=hc (l+i) j (by omega) hj
      rw [Gx] at this
      simpa [F0] using this)
     (fun i e j u he hu=>by
      rw [lx19] at he
      split at he
      ·rw [lx20] at he
       exact hv (l+i) e j u he hu
      ·cases he)
    rw [hlen2] at this
    exact this
 ·rename_i id ver lo' len hev
  rw [hev] at hx
  generalize hq:a.eval x=c0 at hx
  split at h
  rotate_left
  ·rename_i mx' B hl0
   split at h
   ·rename_i hcond
    cases h
    obtain ⟨c1,c2,c3,c4⟩:=hcond
    obtain ⟨g1,g2,g3⟩:=Bc hl0
    cases hx with
    | sl q1 q2=>
     obtain ⟨r1,r2⟩:=q2 _ rfl
     obtain ⟨r3,r4⟩:=r2 B g1 g2 g3
     rcases r4 with ⟨r4,b,hb⟩ | ⟨b,base,cap,nn,hloc,k1,k2,k3,k4,k5⟩
     ·subst r4
      obtain ⟨e1,e2,e3,e4⟩:=C8 (P:=P) hs (L:=0) (cap:=0) (Av _) c1 c3 (fun _=>c2) c4
      exact ⟨_,key _ _ _ _ _ _ (hq.trans hb) e1,.vw0 (fun _=>rfl) (Bq _)⟩
     ·obtain ⟨e1,e2,e3,e4⟩:=C8 (P:=P) hs (L:=len) (cap:=cap) k2 c1 c3 (fun _=>c2) c4
      exact ⟨_,key _ _ _ _ _ _ (hq.trans k1) e1,.vw0 (fun _=>rfl) (Bq _)⟩
   ·cases h
  ·cases h
  rename_i B hl0
  split at h
  rotate_left
  ·cases h
  rename_i h' hh
  split at h
  rotate_left
  ·cases h
  rename_i l hl
  split at h
  rotate_left
  ·cases h
  rename_i hsz0
  cases h
  obtain ⟨g1,g2,g3⟩:=Bc hl0
  cases hx with
  | sl q1 q2=>
   obtain ⟨r1,r2⟩:=q2 _ rfl
   obtain ⟨r3,r4⟩:=r2 B g1 g2 g3
   have hmN:AS s.T none len len=some len:=rfl
   have same:∀ B',(s.hc loc).H[id]?=some B'→B'=B:=fun B' p1=>Option.some.inj (p1.symm.trans g1)
   rcases r4 with ⟨r4,b,hb⟩ | ⟨b,base,cap,nn,hloc,k1,k2,k3,k4,k5⟩
   ·subst r4
    obtain ⟨e1,e2,e3,e4⟩:=C8 (P:=P) hs (L:=0) (cap:=0) (Bq _) hmN hh (by simp) hl
    have:h'=0:=An
    subst this
    have:l=0:=An
    subst this
    refine ⟨_,key _ _ _ _ _ _ (hq.trans hb) e1,.sl ⟨_,_,rfl⟩ ?_⟩
    intro hc1 he1
    cases he1
    refine ⟨r1,fun B' p1 p2 p3=>?_⟩
    cases same B' p1
    exact ⟨by omega,.inl ⟨rfl,_,rfl⟩⟩
   ·obtain ⟨e1,e2,e3,e4⟩:=C8 (P:=P) hs (L:=len) (cap:=cap) k2 hmN hh (by simp) hl
    refine ⟨_,key _ _ _ _ _ _ (hq.trans k1) e1,.sl ⟨_,_,rfl⟩ ?_⟩
    intro hc1 he1
    cases he1
    refine ⟨r1,fun B' p1 p2 p3=>?_⟩
    cases same B' p1
    refine ⟨by omega,?_⟩
    simp only [lx3,DD,lx9]
    by_cases hcl:cap=l
    ·rw [if_pos hcl]
     have:h' - l=0:=An
     rw [this]
     have:cap - l=0:=An
     rw [this]
     exact .inl ⟨rfl,_,rfl⟩
    ·rw [if_neg hcl]
     refine .inr ⟨b,base,cap - l,nn,hloc,?_,by omega,by omega,k4,?_⟩
     ·simp only [lx34,F8,←hsz0,Gx,F0]
     ·have:lo'+l+(cap - l)=lo'+cap:=by omega
      rw [this]; exact k5
 ·cases h
theorem Ayy {o:Oper} {args:Array Operand} {ats:Array TypeId} (ho:o.op=.call { callee:=.builtin .len,args:=args,argTypes:=ats }) (hs:SR w X loc s a)
  (h:Ay P s (.call { callee:=.builtin .len,args:=args,argTypes:=ats })=some v):H9 P w X (s.hc loc) a o v:=by
 simp only [Ay] at h
 split at h
 rotate_left
 ·cases h
 rename_i t x hat har
 have hat':ats=#[t]:=Acp
 have har':args=#[x]:=Acq
 subst hat'; subst har'
 have hx:=BV hs.tm x
 split at h
 rotate_left
 ·cases h
 rename_i d htd
 obtain ⟨ti,u,f1,f2,f3,f4,f5,f6,f7,f8,f9⟩:=Bl htd
 have key:∀ c,rd P (Builtin.len_ #[t] o.type #[a.eval x]) w=some c→rd P (execOp a.eval o) w=some (.value c):=by
  intro c hc
  unfold execOp
  simp only [ho,resolve,invoke,builtin,Ah,Al,lx17,List.map_toArray,lx31,lx46,hc]
 split at h
 ·rename_i el hel hlen
  have hu:=f7 el hel hlen
  subst hu
  split at h
  ·rename_i n hn
   cases h
   have:∃ b cap,a.eval x=.slice b n cap:=by
    generalize a.eval x=c0 at hx
    cases hv:ev s.T x <;> rw [hv] at hn hx <;> simp only [Aam] at hn <;> try (cases hn; done)
    ·rename_i id ver lo len
     cases hn
     cases hx with
     | sl q1 q2=>exact q1
    ·rename_i z es
     cases hn
     cases hx with
     | vw0 hz hm=>exact ⟨_,_,rfl⟩
     | vw1 f hne hX hb hcap hz hmax hsz hc hv=>exact ⟨_,_,rfl⟩
   obtain ⟨b,cap,hq⟩:=this
   refine ⟨goInt n,key _ ?_,.sc rfl⟩
   rw [hq]
   exact Bdi
  ·cases h
 ·rename_i el m hel hlen
  have hu:=f8 el m hel hlen
  subst hu
  cases h
  refine ⟨goInt m,key _ ?_,.sc rfl⟩
  exact Bdi
 ·split at h
  ·rename_i u1 h1
   split at h
   ·rename_i r hr
    cases h
    refine ⟨r,key _ ?_,U4 r⟩
    rw [EO _ h1 hx]
    exact QJ hr w
   ·cases h
  ·cases h
 ·cases h
end
theorem Fs {α:Type}:∀ (xs:List α) (cs:List α) (off:Nat),(setAll cs off xs).length=cs.length
 | [],_,_=>rfl
 | x::r,cs,off=>by rw [setAll,Fs r]; simp
theorem VL.setAll {w X o}:∀ {xs:List AV} {us:List Value} {cs:List AV} {vs:List Value} (off:Nat),VL w X o cs vs→VL w X o xs us→VL w X o (setAll cs off xs) (setAll vs off us)
 | [],us,cs,vs,off,h,k=>by rw [k.unnil]; exact h
 | x::r,us,cs,vs,off,h,k=>by
  obtain ⟨u,us',rfl,k1,k2⟩:=k.uncons
  exact VL.setAll (off+1) (h.set off k1) k2
theorem QP {α:Type}:∀ {xs cs:List α} {off:Nat} {u:α},u ∈ setAll cs off xs→u ∈ cs∨u ∈ xs
 | [],_,_,_,h=>.inl h
 | x::r,cs,off,u,h=>by
  rcases QP (xs:=r) h with h | h
  ·rcases List.mem_or_eq_of_mem_set h with h | h
   ·exact .inl h
   ·exact .inr (by rw [h]; exact lx47)
  ·exact .inr (lx48 _ h)
theorem IE (off:Nat):∀ (us:List Value) (k:Nat) (cs:Array Value),
  ((us.zipIdx k).foldl (fun cs (p:Value × Nat)=>cs.setIfInBounds (off+p.2) p.1) cs).toList=setAll cs.toList (off+k) us
 | [],k,cs=>rfl
 | u::r,k,cs=>by
  simp only [List.zipIdx_cons,List.foldl_cons,setAll]
  rw [IE off r (k+1)]
  simp [F0]
section
variable {P:Program} {w:World} {X:Nat→Prop} {loc:Nat→Option (Nat × Nat)} {s:St} {a:Act} {v:AV}
theorem U7 {T:List AV} {o:Option HC} (ht:VL w X o T a.tmps.toList) (place:Nat→Option (Nat × Nat)):∀ (ops:List (Nat × Operand)) {cs cs':List AV} {vs:List Value},
  Fa place cs (ops.map fun p=>(p.1,ev T p.2))=some cs'→VL w X o cs vs→(∀ u ∈ vs,u.oneCell'=true)→
  ∃ vs',Instr.fill place vs.toArray (ops.map fun p=>(p.1,a.eval p.2))=some vs'.toArray∧VL w X o cs' vs'∧(∀ u ∈ vs',u.oneCell'=true)
 | [],cs,cs',vs,h,h1,h2=>by
  simp only [lx46,Fa,lx16] at h
  subst h
  exact ⟨vs,rfl,h1,h2⟩
 | (i,x)::r,cs,cs',vs,h,h1,h2=>by
  simp only [lx31,Fa] at h
  split at h
  ·rename_i off size hp
   split at h
   ·rename_i hh
    obtain ⟨c1,c2,c3⟩:=hh
    have hx:=BV ht x
    obtain ⟨g1,g2⟩:=hx.cells_ok c1
    have hlen:=g1.1
    have hsz:(a.eval x).cells.size=size:=by
     rw [←c2,hlen]; simp
    have h1':=h1.setAll off g1
    obtain ⟨vs',e1,e2,e3⟩:=U7 ht place r (vs:=setAll vs off (a.eval x).cells.toList) h h1' (fun u hu=>by
     rcases QP hu with hu | hu
     ·exact h2 u hu
     ·exact g2 u hu)
    refine ⟨vs',?_,e2,e3⟩
    have hvl:=h1.1
    have hf:(a.eval x).cells.zipIdx.foldl (fun cs (p:Value × Nat)=>cs.setIfInBounds (off+p.2) p.1) vs.toArray=(setAll vs off (a.eval x).cells.toList).toArray:=by
     apply Array.ext'
     rw [←Array.foldl_toList,Array.toList_zipIdx]
     have:=IE off (a.eval x).cells.toList 0 vs.toArray
     simpa using this
    simp only [lx31,Instr.fill,hp]
    rw [if_neg (by simp [hsz]; omega)]
    rw [←e1]
    congr 1
   ·cases h
  ·cases h
theorem Tj:∀ (fs:List Field) (places:List (Nat × Nat)),(fs.map fun f=>(f.offset,f.type)).mapM (fun (f:Nat × Nat)=>(AR P f.2).map fun df=>(f.1,df.sz))=some places→
  rd P (fs.mapM fun f=>do pure (f.offset,←sizeOf f.type)) w=some places
 | [],places,h=>by simp at h; subst h; simp [Al]
 | f::fs,places,h=>by
  simp only [lx31,List.mapM_cons,Option.bind_eq_bind,Option.pure_def] at h
  cases hd:AR P f.type with
  | none=>simp [hd] at h
  | some d=>
   cases hr:(fs.map fun f=>(f.offset,f.type)).mapM (fun (f:Nat × Nat)=>(AR P f.2).map fun df=>(f.1,df.sz)) with
   | none=>simp [hd,hr] at h
   | some pl=>
    simp only [hd,hr,lx34,lx17,lx16] at h
    subst h
    have ih:=Tj fs pl hr
    simp only [List.mapM_cons,Ah,Hx hd,lx17,ih,Al]
theorem Aaq {z:Value} {zs:List AV} (h:Ax z=.ag zs):∃ vs:List Value,z=.agg vs.toArray∧VL w X (some (s.hc loc)) zs vs∧∀ u ∈ vs,u.oneCell'=true:=by
 have hz:=G6 (w:=w) (X:=X) (o:=some (s.hc loc)) z
 rw [h] at hz
 cases hz with
 | ag hl h1 h2=>exact ⟨_,rfl,⟨hl,h1⟩,h2⟩
theorem Ak6 {o:Oper} {t:TypeId} {parts:Array (Nat × Operand)} (ho:o.op=.build t parts) (hs:SR w X loc s a) (h:Ay P s (.build t parts)=some v):H9 P w X (s.hc loc) a o v:=by
 simp only [Ay] at h
 split at h
 rotate_left
 ·cases h
 rename_i d htd
 obtain ⟨ti,u,f1,f2,f3,f4,f5,f6,f7,f8,f9⟩:=Bl htd
 split at h
 rotate_left
 ·cases h
 rename_i z hz
 split at h
 rotate_left
 ·cases h
 rename_i zs hzs
 obtain ⟨zv,hzv,hz1,hz2⟩:=Aaq (w:=w) (X:=X) (s:=s) (loc:=loc) hzs
 have hpm:(parts.map fun (p:Nat × Operand)=>(p.1,a.eval p.2)).toList=parts.toList.map fun p=>(p.1,a.eval p.2):=AZ
 have key:∀ c,rd P (Instr.build t (parts.map fun (p:Nat × Operand)=>(p.1,a.eval p.2))) w=some c→rd P (execOp a.eval o) w=some (.value c):=by
  intro c hc
  unfold execOp
  simp only [ho]
  exact rdv hc
 have hzero:rd P (zeroValue t) w=some z:=by rw [EM,f1]; simp [f5,hz]
 split at h
 ·rename_i m el hlen hel
  have hu:=f8 el m hel hlen
  subst hu
  split at h
  rotate_left
  ·cases h
  rename_i de hde
  split at h
  ·rename_i cs hcs
   cases h
   obtain ⟨vs',e1,e2,e3⟩:=U7 hs.tm _ parts.toList hcs hz1 hz2
   refine ⟨.agg vs'.toArray,key _ ?_,.ag e2.1 e2.2 e3⟩
   unfold Instr.build
   simp only [Ah,hzero,lx17,Ar,f2,Hx hde,hpm,hzv,Value.cells,e1,Al]
  ·cases h
 ·rename_i hlen hel
  split at h
  ·rename_i hag
   obtain ⟨fs,hu,hfl⟩:=f9 hlen hel hag
   subst hu
   split at h
   rotate_left
   ·cases h
   rename_i places hpl
   split at h
   ·rename_i cs hcs
    cases h
    rw [hfl] at hpl
    have hp:=Tj (w:=w) _ _ hpl
    obtain ⟨vs',e1,e2,e3⟩:=U7 hs.tm _ parts.toList hcs hz1 hz2
    refine ⟨.agg vs'.toArray,key _ ?_,.ag e2.1 e2.2 e3⟩
    unfold Instr.build
    have hmm:rd P (fs.mapM fun f=>do pure (f.offset,←sizeOf f.type)) w=some places.toArray:=by
     rw [Array.mapM_eq_mapM_toList,EL,hp]; rfl
    have e1':Instr.fill (fun x=>places.toArray[x]?) zv.toArray (parts.toList.map fun p=>(p.1,a.eval p.2))=some vs'.toArray:=by
     simpa using e1
    simp only [Ah,hzero,lx17,Ar,f2,hmm,hpm,hzv,Value.cells,e1',Al]
   ·cases h
  ·cases h
 ·cases h
theorem Tl {o:Oper} {b:Builtin} (hb:b=.min∨b=.max) {args:Array Operand} {ats:Array TypeId} (ho:o.op=.call { callee:=.builtin b,args:=args,argTypes:=ats }) (hs:SR w X loc s a)
  (h:Ay P s (.call { callee:=.builtin b,args:=args,argTypes:=ats })=some v):H9 P w X (s.hc loc) a o v:=by
 have hx:=Aan hs.tm args.toList
 have harg:∀ l,C7 (args.toList.map (ev s.T))=some l→args.map a.eval=l.toArray:=by
  intro l hl
  have:=QN _ hl hx
  apply Array.ext'
  rw [←this]; simp
 rcases hb with rfl | rfl
 all_goals
  simp only [Ay] at h
  split at h
  ·rename_i l hl
   split at h
   ·rename_i r hr
    cases h
    refine ⟨r,?_,U4 r⟩
    unfold execOp
    simp only [ho,resolve,invoke,builtin,Ah,Al,lx17,harg l hl]
    have:=QJ hr w
    first | rw [show Builtin.min_ ats o.type l.toArray=Builtin.min_ ats 0 l.toArray from rfl,this] | rw [show Builtin.max_ ats o.type l.toArray=Builtin.max_ ats 0 l.toArray from rfl,this]
    rfl
   ·cases h
  ·cases h
theorem Aqv {o:Oper} (hs:SR w X loc s a) (h:Ay P s o.op=some v):H9 P w X (s.hc loc) a o v:=by
 cases ho:o.op with
 | move x=>rw [ho] at h; simp only [Ay,lx16] at h; rw [←h]; exact Ad3 (.inl ho) hs
 | assign x=>rw [ho] at h; simp only [Ay,lx16] at h; rw [←h]; exact Ad3 (.inr ho) hs
 | pick c x y=>rw [ho] at h; exact Aqu ho hs h
 | build t parts=>rw [ho] at h; exact Ak6 ho hs h
 | load t x=>rw [ho] at h; exact Ad2 ho hs h
 | nilCheck x=>rw [ho] at h; exact WU ho hs h
 | binOp op t x y t'=>rw [ho] at h; exact Ak2 ho hs h
 | unOp op t x=>rw [ho] at h; exact Aqt ho hs h
 | convert t t' x=>rw [ho] at h; exact Aao ho hs h
 | makeFunc fn first caps=>
  rw [ho] at h
  cases fn with
  | func f=>exact WV ho hs h
  | _=>simp [Ay] at h
 | slice t x lo hi mx=>rw [ho] at h; exact Ak5 ho hs h
 | fieldAddr t x f=>rw [ho] at h; exact U5 ho hs h
 | field t x f=>rw [ho] at h; exact Ak3 ho hs h
 | indexAddr t x i=>rw [ho] at h; exact U6 ho hs h
 | index t x i=>rw [ho] at h; exact Ak4 ho hs h
 | extract x i=>rw [ho] at h; exact Aap ho hs h
 | call c=>
  rw [ho] at h
  obtain ⟨callee,args,ats⟩:=c
  cases callee with
  | builtin b=>
   cases b with
   | len=>exact Ayy ho hs h
   | min=>exact Tl (.inl rfl) ho hs h
   | max=>exact Tl (.inr rfl) ho hs h
   | _=>simp [Ay] at h
  | value f=>simp [Ay] at h
  | invoke r m=>simp [Ay] at h
 | _=>rw [ho] at h; simp [Ay] at h
end
end Go.SX
