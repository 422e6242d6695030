/-
  Lemmas towards ModesFaults (joined texts: SX4, SX5).
  Conditions: none.
-/
import Derived.Test.YtdjpkhjaibdogaaGreatK01
import Derived.Test.YtdjpkhjaibdogaaGreatK03
import Derived.Laws.Tables
set_option linter.unusedSimpArgs false
set_option linter.unusedVariables false
set_option maxRecDepth 100000
namespace Go.SX
open Go.RowKit (Below)
section
variable {P:Program} {w:World} {X:Nat→Prop} {loc:Nat→Option (Nat × Nat)} {s:St} {a:Act} {v:AV}
def HL (P:Program) (w:World) (X:Nat→Prop) (hc:HC) (a:Act) (o:Oper) (v:AV):Prop:=
 ∃ c,rd P (execOp a.eval o) w=some (.value c)∧VR w X (some hc) v c
theorem rdv {x:Sem Value} {c:Value} (h:rd P x w=some c):rd P (do pure (Next.value (←x)):Sem Next) w=some (.value c):=by
 rw [Ai,h]; rfl
theorem K8 {t:Sem Value} {u:Value} (h:Bp P t=some u) {o:Oper} (he:execOp a.eval o=(do pure (Next.value (←t)):Sem Next)):HL P w X (s.hc loc) a o (KY u):=
 ⟨u,by rw [he]; exact rdv (On h w),Se u⟩
theorem Yx {t:TypeId} {d:TyD} (ht:AY P t=some d) {o:Option HC} {cs:List AV} {vs:List Value} (hv:VL w X o cs vs) (h1:∀ u ∈ vs,u.oneCell'=true) {off:Nat} {r:AV} (h:EN d cs off=some r):
  ∃ c,rd P (part t vs.toArray off) w=some c∧VR w X o r c:=by
 unfold EN at h
 unfold part
 simp only [Ai,TV ht,lx17]
 split at h
 ·rename_i hag
  split at h
  ·rename_i hl
   cases h
   have hlen:=hv.1
   refine ⟨.agg ((vs.drop off).take d.sz).toArray,?_,.ag ?_ ?_ ?_⟩
   ·simp only [hag,lx6,Ai,Hl ht,lx17,Ak]
    congr 2
    apply Array.ext'
    simp
   ·simp; omega
   ·exact ((hv.drop off).take d.sz).2
   ·intro u hu
    exact h1 u (List.mem_of_mem_drop (lx38 hu))
  ·cases h
 ·rename_i hag
  obtain ⟨c,g1,g2⟩:=hv.get h
  refine ⟨c,?_,g2⟩
  simp only [hag,lx7,Em]
  simp only [lx39,g1,Ak]
theorem Yy {o:Oper} {t:TypeId} {x:Operand} (ho:o.op=.load t x) (hs:SR w X loc s a) (h:Av P s (.load t x)=some v):HL P w X (s.hc loc) a o v:=by
 have hx:=Ca hs.tm x
 simp only [Av] at h
 split at h
 ·rename_i d id ver i off htd hev
  split at h
  ·rename_i B hl
   split at h
   ·rename_i e he
    rw [hev] at hx
    obtain ⟨b,base,h1,h2,h3,h4,h5⟩:=Gu hs.hr hx hl
    obtain ⟨c,g1,g2⟩:=Yw (w:=w) (X:=X) (o:=some (s.hc loc)) htd (cs:=e.cells) (b:=b) (p:=base+i * B.esz) (off:=off)
     (f:=fun j=>(w.cell? ⟨b,base+i * B.esz+j,none⟩).getD undef) (h5.fn he) h
    refine ⟨c,?_,g2⟩
    unfold execOp
    simp only [ho,Instr.loadAt,h2]
    exact rdv (by simpa [Instr.sureAddr,Ai,Ak] using g1)
   ·cases h
  ·cases h
 ·rename_i d es i off htd hev
  split at h
  ·rename_i e he
   split at h
   ·rename_i r hr
    split at h
    ·rename_i hn
     cases h
     rw [hev] at hx
     generalize hq:a.eval x=c0 at hx
     cases hx with
     | @vp _ es i off b base esz f hX hb hsz hc hv=>
      have hi:i < es.length:=(lx22.1 he).1
      have hmem:=lx25 he
      obtain ⟨c,g1,g2⟩:=Yw (w:=w) (X:=X) (o:=none) htd (cs:=e.cells) (b:=b) (p:=base+i * esz) (off:=off)
       (f:=f i) (fun j u hu=>by
        have hj:j < e.cells.length:=(lx22.1 hu).1
        rw [hsz e hmem] at hj
        exact ⟨(hc i j hi hj).1,(hc i j hi hj).2,hv i e j u he hu⟩) hr
      refine ⟨c,?_,Ge _ hn g2⟩
      unfold execOp
      simp only [ho,Instr.loadAt,hq]
      exact rdv (by simpa [Instr.sureAddr,Ai,Ak] using g1)
    ·cases h
   ·cases h
  ·cases h
 ·cases h
theorem TW {o:Oper} {x:Operand} (ho:o.op=.nilCheck x) (hs:SR w X loc s a) (h:Av P s (.nilCheck x)=some v):HL P w X (s.hc loc) a o v:=by
 have hx:=Ca hs.tm x
 simp only [Av] at h
 split at h
 ·rename_i id ver i off hev
  split at h
  ·rename_i B hl
   cases h
   rw [hev] at hx
   obtain ⟨b,base,h1,h2,_⟩:=Gu hs.hr hx hl
   refine ⟨_,?_,hx⟩
   unfold execOp
   simp only [ho,h2]; rfl
  ·cases h
 ·rename_i es i off hev
  exact Ao8
 ·rename_i f cs hev
  exact Ao8
 ·cases h
theorem Qz (H:List Blk) (u:AV):BZ (K7 H u)=BZ u:=by
 cases u with
 | sl id ver lo n=>
  simp only [K7]
  cases AE H id ver with
  | none=>rfl
  | some B=>
   simp only [Ak0]
   split <;> rfl
 | _=>rfl
theorem Ae0 {o:Oper} {op:BinOp} {t t':TypeId} {x y:Operand} (ho:o.op=.binOp op t x y t') (hs:SR w X loc s a) (h:Av P s (.binOp op t x y t')=some v):HL P w X (s.hc loc) a o v:=by
 have hx:=Ca hs.tm x
 have hy:=Ca hs.tm y
 simp only [Av] at h
 split at h
 ·rename_i u1 u2 h1 h2
  rw [Qz] at h1
  split at h
  ·rename_i r hr
   cases h
   refine K8 hr ?_
   unfold execOp
   simp only [ho,Fa _ h1 hx,Fa _ h2 hy]
  ·cases h
 ·unfold Ab0 at h
  split at h
  rotate_left
  ·cases h
  rename_i y' hyy
  have hsl:Oq P t=true:=by
   cases hq:Oq P t with
   | true=>rfl
   | false=>rw [hq] at h; simp [TU] at h
  obtain ⟨e,hu⟩:∃ e,P.underlying t=some (.slice e):=by
   unfold Oq at hsl
   split at hsl
   ·rename_i e he; exact ⟨e,he⟩
   ·cases hsl
  rw [hsl] at h
  generalize hq:a.eval x=c1 at hx
  obtain ⟨b,hb⟩:∃ b,Ja (K7 s.H (ev s.T x))=some b:=by
   cases hq2:Ja (K7 s.H (ev s.T x)) with
   | some b=>exact ⟨b,rfl⟩
   | none=>rw [hq2] at h; simp [TU] at h
  rw [hb] at h
  obtain ⟨ad,l,cp,hc1,hadb⟩:∃ ad l cp,c1=.slice ad l cp∧ad.isNone=b:=by
   generalize ev s.T x=u at hx hb
   by_cases hsl2:K7 s.H u=u
   rotate_left
   ·cases u with
    | sl id ver lo n=>
     simp only [K7] at hb hsl2
     cases hlv:AE s.H id ver with
     | none=>rw [hlv] at hsl2; exact absurd rfl hsl2
     | some B=>
      rw [hlv] at hb hsl2
      simp only [Ak0] at hb hsl2
      split at hb
      ·rename_i hn; rw [if_pos hn] at hsl2; exact absurd rfl hsl2
      ·rename_i hn
       cases hb
       obtain ⟨g1,g2,g3⟩:=Ba hlv
       cases hx with
       | sl q1 q2=>
        obtain ⟨_,r2⟩:=q2 _ rfl
        obtain ⟨_,r4⟩:=r2 B g1 g2 g3
        rcases r4 with ⟨r4,_⟩ | ⟨_,_,_,_,_,k1,_⟩
        ·exact absurd r4 hn
        ·exact ⟨_,_,_,k1,rfl⟩
    | _=>exact absurd rfl hsl2
   rw [hsl2] at hb
   unfold Ja at hb
   split at hb
   ·cases hb
    cases hx with
    | vw1 f hne=>exact ⟨_,_,_,rfl,rfl⟩
   ·cases hb; cases hx; exact ⟨_,_,_,rfl,rfl⟩
   ·cases hb; cases hx; exact ⟨_,_,_,rfl,rfl⟩
   ·cases hb
  have heq:rd P (Op.equal t c1 (.slice none 0 0)) w=some b:=by
   subst hc1
   have h1:rd P (underlying t) w=some (.slice e):=by rw [Ar,hu]
   have h2:Op.equal t (.slice ad l cp) (.slice none 0 0)=Op.equalIn 10000 t (.slice ad l cp) (.slice none 0 0):=rfl
   rw [h2]
   unfold Op.equalIn
   rw [Ai,h1]
   subst hadb
   cases ad <;> rfl
  have hyv:a.eval (.const (.slice none 0 0))=.slice none 0 0:=rfl
  cases op with
  | eql=>
   simp only [TU,lx16] at h
   subst h
   refine ⟨.bool b,?_,.sc rfl⟩
   unfold execOp
   simp only [ho,hq,hyv]
   rw [Ai]
   have hg:rd P (eqGuard .eql t x (.const (.slice none 0 0)) c1 (.slice none 0 0)) w=some ():=by
    subst hc1; rfl
   rw [Ai,hg]
   subst hc1
   have hbo:binOp .eql t (.slice ad l cp) (.slice none 0 0)=(do pure (.bool (←Op.equal t (.slice ad l cp) (.slice none 0 0))):Sem Value):=rfl
   simp only [lx17]
   rw [hbo,Ai,heq]
   rfl
  | neq=>
   simp only [TU,lx16] at h
   subst h
   refine ⟨.bool (!b),?_,.sc rfl⟩
   unfold execOp
   simp only [ho,hq,hyv]
   rw [Ai]
   have hg:rd P (eqGuard .neq t x (.const (.slice none 0 0)) c1 (.slice none 0 0)) w=some ():=by
    subst hc1; rfl
   rw [Ai,hg]
   subst hc1
   have hbo:binOp .neq t (.slice ad l cp) (.slice none 0 0)=(do pure (.bool (!(←Op.equal t (.slice ad l cp) (.slice none 0 0)))):Sem Value):=rfl
   simp only [lx17]
   rw [hbo,Ai,heq]
   rfl
  | _=>simp [TU] at h
theorem Ak1 {o:Oper} {op:UnOp} {t:TypeId} {x:Operand} (ho:o.op=.unOp op t x) (hs:SR w X loc s a) (h:Av P s (.unOp op t x)=some v):HL P w X (s.hc loc) a o v:=by
 have hx:=Ca hs.tm x
 simp only [Av] at h
 split at h
 ·rename_i u1 h1
  split at h
  ·rename_i r hr
   cases h
   refine K8 hr ?_
   unfold execOp
   simp only [ho,Fa _ h1 hx]
  ·cases h
 ·cases h
theorem W6 {o:Oper} {t t':TypeId} {x:Operand} (ho:o.op=.convert t t' x) (hs:SR w X loc s a) (h:Av P s (.convert t t' x)=some v):HL P w X (s.hc loc) a o v:=by
 have hx:=Ca hs.tm x
 simp only [Av] at h
 split at h
 ·rename_i u1 h1
  split at h
  ·rename_i r hr
   cases h
   refine K8 hr ?_
   unfold execOp
   simp only [ho,Fa _ h1 hx]
  ·cases h
 ·cases h
theorem Yz {o:Oper} {x:Operand} (ho:o.op=.move x∨o.op=.assign x) (hs:SR w X loc s a):HL P w X (s.hc loc) a o (ev s.T x):=by
 refine ⟨a.eval x,?_,Ca hs.tm x⟩
 unfold execOp
 rcases ho with ho | ho <;> simp only [ho,Ak]
theorem Ak2 {o:Oper} {c x y:Operand} (ho:o.op=.pick c x y) (hs:SR w X loc s a) (h:Av P s (.pick c x y)=some v):HL P w X (s.hc loc) a o v:=by
 have hc:=Ca hs.tm c
 have hx:=Ca hs.tm x
 have hy:=Ca hs.tm y
 simp only [Av] at h
 split at h
 ·rename_i t hev
  cases h
  rw [hev] at hc
  generalize hq:a.eval c=u at hc
  cases hc
  refine ⟨if t=true then a.eval x else a.eval y,?_,?_⟩
  ·unfold execOp
   simp only [ho,hq,asBool]
   cases t <;> rfl
  ·cases t
   ·exact hy
   ·exact hx
 ·cases h
theorem K9 {t:TypeId} {d:TyD} (ht:AY P t=some d) {f off ft:Nat} (hf:d.flds[f]?=some (off,ft)):
  ∃ fs fd,P.underlying t=some (.struct fs)∧fs[f]?=some fd∧fd.offset=off∧fd.type=ft:=by
 unfold AY at ht
 split at ht
 ·rename_i i fs h1 h2
  cases ht
  simp only [lx23,lx24,lx40] at hf
  obtain ⟨fd,g1,g2,g3⟩:=hf
  exact ⟨fs,fd,h2,by simpa using g1,g2,g3⟩
 all_goals (cases ht; try (simp at hf))
theorem Qf {ft:Field} {d:TyD} (ht:AY P ft.type=some d) (hz:d.sz≠0) (b p:Nat):rd P (fieldPlace ⟨b,p,none⟩ ft) w=some ⟨b,p+ft.offset,none⟩:=by
 unfold fieldPlace
 simp only [Ai,Hl ht,lx17,hz,lx7,Gf,Ak]
theorem Sf {o:Oper} {t:TypeId} {x:Operand} {f:Nat} (ho:o.op=.fieldAddr t x f) (hs:SR w X loc s a) (h:Av P s (.fieldAddr t x f)=some v):HL P w X (s.hc loc) a o v:=by
 have hx:=Ca hs.tm x
 simp only [Av] at h
 split at h
 rotate_left
 ·cases h
 rename_i d htd
 split at h
 rotate_left
 ·cases h
 rename_i off ft hf
 split at h
 rotate_left
 ·cases h
 rename_i df hdf
 split at h
 ·cases h
 rename_i hz
 obtain ⟨fs,fd,e1,e2,e3,e4⟩:=K9 htd hf
 subst e3; subst e4
 have key:∀ b p,a.eval x=.pointer (some ⟨b,p,none⟩)→rd P (execOp a.eval o) w=some (.value (.pointer (some ⟨b,p+fd.offset,none⟩))):=by
  intro b p hq
  unfold execOp
  simp only [ho,hq]
  refine rdv ?_
  unfold Instr.fieldAt
  simp only [Ai,Ar,e1,lx17,e2,Instr.sureAddr,Ak,Qf hdf hz]
 split at h
 ·rename_i id ver i o' hev
  split at h
  ·rename_i B hl
   cases h
   rw [hev] at hx
   obtain ⟨b,base,h1,h2,_⟩:=Gu hs.hr hx hl
   refine ⟨_,key _ _ h2,.pt rfl ?_⟩
   intro hc1 he
   cases he
   generalize hq:a.eval x=c0 at hx
   cases hx with
   | pt g1 g2=>
    exact Aue
  ·cases h
 ·rename_i es i o' hev
  cases h
  rw [hev] at hx
  generalize hq:a.eval x=c0 at hx
  cases hx with
  | vp fn hX hb hsz hc hv=>
   refine ⟨_,key _ _ hq,?_⟩
   have:=VR.vp (o:=some (s.hc loc)) (i:=i) (off:=o'+fd.offset) fn hX hb hsz hc hv
   rw [←Gd] at this
   exact this
 ·cases h
theorem Ae1 {o:Oper} {t:TypeId} {x:Operand} {f:Nat} (ho:o.op=.field t x f) (hs:SR w X loc s a) (h:Av P s (.field t x f)=some v):HL P w X (s.hc loc) a o v:=by
 have hx:=Ca hs.tm x
 simp only [Av] at h
 split at h
 rotate_left
 ·cases h
 rename_i d htd
 split at h
 rotate_left
 ·cases h
 rename_i off ft hf
 split at h
 rotate_left
 ·cases h
 rename_i df hdf
 obtain ⟨fs,fd,e1,e2,e3,e4⟩:=K9 htd hf
 subst e3; subst e4
 split at h
 ·rename_i cs hev
  rw [hev] at hx
  generalize hq:a.eval x=c0 at hx
  cases hx with
  | @ag _ _ vs hl h1 h2=>
   obtain ⟨c,g1,g2⟩:=Yx (w:=w) hdf ⟨hl,h1⟩ h2 h
   refine ⟨c,?_,g2⟩
   unfold execOp
   simp only [ho,hq]
   refine rdv ?_
   unfold Instr.field
   simp only [Ai,Ar,e1,lx17,e2,asAgg,Ak,g1]
 ·cases h
theorem W7 {o:Oper} {x:Operand} {i:Nat} (ho:o.op=.extract x i) (hs:SR w X loc s a) (h:Av P s (.extract x i)=some v):HL P w X (s.hc loc) a o v:=by
 have hx:=Ca hs.tm x
 simp only [Av] at h
 split at h
 ·rename_i vs hev
  rw [hev] at hx
  generalize hq:a.eval x=c0 at hx
  cases hx with
  | @tu _ _ us hl h1=>
   obtain ⟨c,g1,g2⟩:=VL.get ⟨hl,h1⟩ h
   refine ⟨c,?_,g2⟩
   unfold execOp
   simp only [ho,hq]
   refine rdv ?_
   unfold Instr.extract
   simp only [lx39,g1,Ak]
 ·cases h
theorem TX {o:Oper} {f:FuncId} {first caps:Array Operand} (ho:o.op=.makeFunc (.func f) first caps) (hs:SR w X loc s a) (h:Av P s (.makeFunc (.func f) first caps)=some v):HL P w X (s.hc loc) a o v:=by
 simp only [Av] at h
 split at h
 ·rename_i hf
  cases h
  rw [Array.isEmpty_iff] at hf
  subst hf
  refine ⟨.func (.func f) #[] (caps.toList.map a.eval).toArray,?_,?_⟩
  ·unfold execOp
   simp only [ho]
   refine rdv ?_
   have e:Array.map a.eval caps=(List.map a.eval caps.toList).toArray:=Array.ext' (by simp)
   simp only [Instr.makeFunc,Ak,e,Array.map_empty]
  ·have:=W5 hs.tm caps.toList
   exact .fn this.1 this.2
 ·cases h
theorem Aos {es:List AV} {d:Nat} (h:es.all (fun e=>e.cells.length=d)=true):∀ e ∈ es,e.cells.length=d:=by
 intro e he
 have:=lx28.1 h e he
 simpa using this
theorem Sg {o:Oper} {t:TypeId} {x i:Operand} (ho:o.op=.indexAddr t x i) (hs:SR w X loc s a) (h:Av P s (.indexAddr t x i)=some v):HL P w X (s.hc loc) a o v:=by
 have hx:=Ca hs.tm x
 have hi:=Ca hs.tm i
 simp only [Av] at h
 split at h
 rotate_left
 ·cases h
 rename_i d htd
 split at h
 rotate_left
 ·cases h
 rename_i el hel
 split at h
 rotate_left
 ·cases h
 rename_i de hde
 obtain ⟨ti,u,f1,f2,f3,f4,f5,f6,f7,f8,f9⟩:=Bf htd
 have keyS:∀ b p len cap k n,u=.slice el→a.eval x=.slice (some ⟨b,p,none⟩) len cap→a.eval i=.int k n→0≤n→n < (len:Int)→
   rd P (execOp a.eval o) w=some (.value (.pointer (some ⟨b,p+n.toNat * de.sz,none⟩))):=by
  intro b p len cap k n hu e1 e2 h0 h1
  subst hu
  unfold execOp
  simp only [ho,e1,e2]
  refine rdv ?_
  unfold Instr.indexAt
  simp only [Ai,asIntOf,Ak,lx17,Ar,f2,h0,h1,and_self,lx6,Hl hde,Gf]
 have keyA:∀ b p m k n,u=.array m el→a.eval x=.pointer (some ⟨b,p,none⟩)→a.eval i=.int k n→0≤n→n < (m:Int)→
   rd P (execOp a.eval o) w=some (.value (.pointer (some ⟨b,p+n.toNat * de.sz,none⟩))):=by
  intro b p m k n hu e1 e2 h0 h1
  subst hu
  unfold execOp
  simp only [ho,e1,e2]
  refine rdv ?_
  unfold Instr.indexAt
  simp only [Ai,asIntOf,Ak,lx17,Ar,f2,Instr.sureAddr,h0,h1,and_self,lx6,Hl hde,Gf]
 split at h
 ·rename_i z es k n hlen hev hiv
  rw [hiv] at hi
  generalize hqi:a.eval i=c1 at hi
  cases hi
  split at h
  ·rename_i e he
   split at h
   ·rename_i hsz0
    cases h
    split at he
    ·rename_i h0
     rw [hev] at hx
     generalize hq:a.eval x=c0 at hx
     have hlt:n.toNat < es.length:=(lx22.1 he).1
     cases hx with
     | vw0 hz hm=>simp at he
     | @vw1 _ _ _ b base cap esz f hne hX hb hcap hz hmax hsz hc hv=>
      have hes:esz=de.sz:=(hsz e (lx25 he)).symm.trans hsz0
      subst hes
      refine ⟨_,keyS b base es.length cap k n (f7 el hel hlen) hq hqi h0 (by omega),?_⟩
      have:=VR.vp (o:=some (s.hc loc)) (i:=n.toNat) (off:=0) f hX hb hsz hc hv
      simpa using this
    ·cases he
   ·cases h
  ·cases h
 ·rename_i id ver lo len k n hlen hev hiv
  rw [hiv] at hi
  generalize hqi:a.eval i=c1 at hi
  cases hi
  split at h
  ·rename_i B hl
   split at h
   ·rename_i hh
    cases h
    obtain ⟨h0,h1,h2⟩:=hh
    rw [hev] at hx
    obtain ⟨g1,g2,g3⟩:=Ba hl
    generalize hq:a.eval x=c0 at hx
    cases hx with
    | sl q1 q2=>
     obtain ⟨r1,r2⟩:=q2 _ rfl
     obtain ⟨r3,r4⟩:=r2 B g1 g2 g3
     rcases r4 with ⟨r4,_⟩ | ⟨b,base,cap,nn,hloc,k1,k2,k3,k4,k5⟩
     ·omega
     ·refine ⟨_,keyS b (base+lo * B.esz) len cap k n (f7 el hel hlen) (by rw [hq,k1]) hqi h0 h1,?_⟩
      refine .pt rfl ?_
      intro hc1 he1
      cases he1
      refine ⟨r1,fun B' p1 p2 p3=>?_⟩
      have:B'=B:=Option.some.inj (p1.symm.trans g1)
      subst this
      refine ⟨b,base,hloc,?_⟩
      rw [←h2,Gt]
      simp only [Gd,IW]
   ·cases h
  ·cases h
 ·rename_i m id ver k0 off k n hlen hev hiv
  rw [hiv] at hi
  generalize hqi:a.eval i=c1 at hi
  cases hi
  split at h
  ·rename_i B hl
   split at h
   ·rename_i hh
    cases h
    rw [hev] at hx
    obtain ⟨b,base,h1,h2,_⟩:=Gu hs.hr hx hl
    refine ⟨_,keyA b _ m k n (f8 el m hel hlen) h2 hqi hh.1 hh.2,?_⟩
    refine .pt rfl ?_
    intro hc1 he
    cases he
    generalize hq:a.eval x=c0 at hx
    cases hx with
    | pt g1 g2=>
     exact Aue
   ·cases h
  ·cases h
 ·rename_i m es k0 off k n hlen hev hiv
  rw [hiv] at hi
  generalize hqi:a.eval i=c1 at hi
  cases hi
  split at h
  ·rename_i hh
   cases h
   rw [hev] at hx
   generalize hq:a.eval x=c0 at hx
   cases hx with
   | vp fn hX hb hsz hc hv=>
    refine ⟨_,keyA _ _ m k n (f8 el m hel hlen) hq hqi hh.1 hh.2,?_⟩
    have:=VR.vp (o:=some (s.hc loc)) (i:=k0) (off:=off+n.toNat * de.sz) fn hX hb hsz hc hv
    rw [←Gd] at this
    exact this
  ·cases h
 ·cases h
theorem Ae2 {o:Oper} {t:TypeId} {x i:Operand} (ho:o.op=.index t x i) (hs:SR w X loc s a) (h:Av P s (.index t x i)=some v):HL P w X (s.hc loc) a o v:=by
 have hx:=Ca hs.tm x
 have hi:=Ca hs.tm i
 simp only [Av] at h
 split at h
 rotate_left
 ·cases h
 rename_i d htd
 obtain ⟨ti,u,f1,f2,f3,f4,f5,f6,f7,f8,f9⟩:=Bf htd
 split at h
 ·rename_i el m hel hlen
  split at h
  rotate_left
  ·cases h
  rename_i de hde
  split at h
  ·rename_i cs k n hev hiv
   split at h
   ·rename_i hh
    rw [hiv] at hi
    generalize hqi:a.eval i=c1 at hi
    cases hi
    rw [hev] at hx
    generalize hq:a.eval x=c0 at hx
    have hu:=f8 el m hel hlen
    subst hu
    cases hx with
    | @ag _ _ vs hl h1 h2=>
     obtain ⟨c,g1,g2⟩:=Yx (w:=w) hde ⟨hl,h1⟩ h2 h
     refine ⟨c,?_,g2⟩
     unfold execOp
     simp only [ho,hq,hqi]
     refine rdv ?_
     unfold Instr.index
     simp only [Ai,asIntOf,Ak,lx17,Ar,f2,hh,and_self,lx6,Hl hde,g1]
   ·cases h
  ·cases h
 ·split at h
  ·rename_i u1 u2 h1 h2
   split at h
   ·rename_i r hr
    cases h
    refine K8 hr ?_
    unfold execOp
    simp only [ho,Fa _ h1 hx,Fa _ h2 hi]
   ·cases h
  ·cases h
 ·cases h
theorem Ou {n:Int} {hi hi' r:Nat} (h:Oo n hi=some r) (hle:hi≤hi') (k:IntKind) (code:BoundsCode):rd P (Instr.sliceBound (.int k n) hi' code) w=some r∧r≤hi:=by
 unfold Oo at h
 split at h
 ·rename_i hh
  cases h
  have h2:n≤(hi':Int):=Ah
  unfold Instr.sliceBound
  simp only [Ai,asIntOf,Ak,lx17,hh.1,h2,and_self,lx6]
  exact ⟨trivial,by omega⟩
 ·cases h
theorem GD (hs:SR w X loc s a) {x:Option Operand} {d hi hi' r:Nat} (hd:d≤hi) (hle:hi≤hi') (h:AT s.T x d hi=some r):
  r≤hi∧match x.map a.eval with
   | some v=>∀ code,rd P (Instr.sliceBound v hi' code) w=some r
   | none=>r=d:=by
 cases x with
 | none=>simp only [AT,lx16] at h; subst h; exact ⟨hd,rfl⟩
 | some x=>
  have hx:=Ca hs.tm x
  simp only [AT] at h
  split at h
  ·rename_i k n hev
   rw [hev] at hx
   generalize hq:a.eval x=c0 at hx
   cases hx
   refine ⟨(Ou (P:=P) (w:=w) h hle k .index).2,?_⟩
   simp only [lx34,hq]
   exact fun code=>(Ou (P:=P) (w:=w) h hle k code).1
  ·cases h
theorem Df (hs:SR w X loc s a) {L cap:Nat} {lo hi mx:Option Operand} {m h l:Nat} (hcap:L≤cap) (hm:AT s.T mx L L=some m) (hh:AT s.T hi L m=some h)
  (hxh:mx.isSome=true→hi.isSome=true) (hl:AT s.T lo 0 h=some l):
  rd P (Instr.sliceBounds true L cap (lo.map a.eval) (hi.map a.eval) (mx.map a.eval)) w=some (l,h,if mx.isSome=true then m else cap)∧l≤h∧h≤m∧m≤L:=by
 obtain ⟨m1,m2⟩:=GD (P:=P) hs (Ax L) hcap hm
 have hLm:mx=none→m=L:=by intro e; subst e; exact m2
 cases mx with
 | none=>
  have:=hLm rfl
  subst this
  obtain ⟨h1,h2⟩:=GD (P:=P) hs (Ax m) hcap hh
  obtain ⟨l1,l2⟩:=GD (P:=P) hs (BX h) (Ax h) hl
  refine ⟨?_,l1,h1,m1⟩
  unfold Instr.sliceBounds
  cases hi with
  | none=>
   simp only [Option.map_none] at h2
   subst h2
   cases lo with
   | none=>simp only [Option.map_none] at l2; subst l2; simp [Ai,Ft,Ak]
   | some lo=>simp only [lx34] at l2; simp [Ai,Ft,Ak,l2]
  | some hi=>
   simp only [lx34] at h2
   cases lo with
   | none=>simp only [Option.map_none] at l2; subst l2; simp [Ai,Ft,Ak,h2]
   | some lo=>simp only [lx34] at l2; simp [Ai,Ft,Ak,h2,l2]
 | some mx=>
  cases hi with
  | none=>simp at hxh
  | some hi=>
   have hh':AT s.T (some hi) 0 m=some h:=hh
   obtain ⟨h1,h2⟩:=GD (P:=P) hs (BX m) (Ax m) hh'
   obtain ⟨l1,l2⟩:=GD (P:=P) hs (BX h) (Ax h) hl
   refine ⟨?_,l1,h1,m1⟩
   unfold Instr.sliceBounds
   simp only [lx34] at h2 m2
   cases lo with
   | none=>simp only [Option.map_none] at l2; subst l2; simp [Ai,Ft,Ak,m2,h2]
   | some lo=>simp only [lx34] at l2; simp [Ai,Ft,Ak,m2,h2,l2]
theorem Ny (hs:SR w X loc s a) {m h:Nat} {hi:Option Operand} (hh:AT s.T hi m m=some h):
  rd P (Instr.sliceBounds false m m none (hi.map a.eval) none) w=some (0,h,m)∧h≤m:=by
 obtain ⟨h1,h2⟩:=GD (P:=P) hs (Ax m) (Ax m) hh
 refine ⟨?_,h1⟩
 unfold Instr.sliceBounds
 cases hi with
 | none=>simp only [Option.map_none] at h2; subst h2; simp [Ai,Ft,Ak]
 | some hi=>simp only [lx34] at h2; simp [Ai,Ft,Ak,h2]
theorem Ab3 {o:Oper} {t:TypeId} {x:Operand} {hi:Option Operand} {d de:TyD} {el m i off h:Nat} {es:List AV} {e:AV} (ho:o.op=.slice t x none hi none) (hs:SR w X loc s a)
  (htd:AY P t=some d) (hel:d.el=some el) (hlen:d.len=some m) (hde:AY P el=some de) (hev:ev s.T x=.vp es i off) (he:es[i]?=some e) (hh:AT s.T hi m m=some h)
  (h1:de.sz=1) (h2:off+m≤e.cells.length) (h3:m≤1000000) (h4:e.cells.all (fun a=>a.cells.length=1)=true):HL P w X (s.hc loc) a o (.vw false ((e.cells.drop off).take h)):=by
 have hx:=Ca hs.tm x
 rw [hev] at hx
 obtain ⟨ti,u,f1,f2,f3,f4,f5,f6,f7,f8,f9⟩:=Bf htd
 have hu:=f8 el m hel hlen
 subst hu
 obtain ⟨b1,b2⟩:=Ny (P:=P) hs hh
 generalize hq:a.eval x=c0 at hx
 have hi':i < es.length:=(lx22.1 he).1
 have hmem:e ∈ es:=lx25 he
 cases hx with
 | @vp _ _ _ _ b base esz f hX hb hsz hc hv=>
  have hes:e.cells.length=esz:=hsz e hmem
  have hrun:rd P (execOp a.eval o) w=some (.value (.slice (some ⟨b,base+i * esz+off,none⟩) h m)):=by
   unfold execOp
   simp only [ho,hq]
   refine rdv ?_
   unfold Instr.sliceAt
   simp only [Option.map_none,Ai,Ar,f2,lx17,Instr.sureAddr,Ak,b1,Hl hde,h1,Nat.mul_one,Nat.zero_mul,Nat.sub_zero,Gf,IW]
   split <;> rfl
  refine ⟨_,hrun,?_⟩
  have hl:((e.cells.drop off).take h).length=h:=E6
  by_cases h0:h=0
  ·subst h0
   rw [lx42]
   exact .vw0 (fun h=>by cases h) (by unfold maxLen; omega)
  ·have hone:∀ (k:Nat) (c:AV),e.cells[k]?=some c→c.cells=[c]:=by
    intro k c hk
    have:=lx28.1 h4 c (lx25 hk)
    simp only [AR] at this
    cases c with
    | ag cs=>
     exfalso
     have hvr:=hv i e k (.ag cs) he hk
     have g:=(hc i k hi' (by rw [←hes]; exact (lx22.1 hk).1)).2
     generalize f i k=v0 at hvr g
     cases hvr
     simp [Value.oneCell'] at g
    | _=>rfl
   have hget:∀ (k:Nat) (c:AV),((e.cells.drop off).take h)[k]?=some c→e.cells[off+k]?=some c:=by
    intro k c hk
    rw [lx19] at hk
    split at hk
    ·rwa [lx20] at hk
    ·cases hk
   have:=VR.vw1 (w:=w) (X:=X) (o:=some (s.hc loc)) (z:=false) (es:=(e.cells.drop off).take h) (b:=b) (base:=base+i * esz+off) (cap:=m) (esz:=1) (fun k _=>f i (off+k))
    (by intro e'; rw [e'] at hl; simp at hl; omega) hX hb (by rw [hl]; exact b2) (fun h=>by cases h) (by unfold maxLen; omega)
    (fun c hcm=>by
     obtain ⟨k,hk⟩:=lx44.1 hcm
     rw [hone _ c (hget k c hk)]; rfl)
    (fun k j hk hj=>by
     have hk':off+k < esz:=by rw [hl] at hk; omega
     have:=hc i (off+k) hi' hk'
     rw [show base+i * esz+off+k * 1+j=base+i * esz+(off+k) by omega]
     exact this)
    (fun k c j u hk hu=>by
     have hk2:=hget k c hk
     rw [hone _ c hk2] at hu
     cases j with
     | zero=>
      simp only [lx45,lx16] at hu
      subst hu
      exact hv i e (off+k) c he hk2
     | succ j=>simp at hu)
   rw [hl] at this
   exact this
theorem Ov (hs:SR w X loc s a):∀ {x:Option Operand} {v:Option Value},Fp s.T x=some v→x.map a.eval=v
 | none,v,h=>by simp only [Fp,lx16] at h; rw [←h]; rfl
 | some x,v,h=>by
  simp only [Fp] at h
  split at h
  ·rename_i u hu
   cases h
   simp only [lx34,Fa _ hu (Ca hs.tm x)]
  ·cases h
theorem Ae3 {o:Oper} {t:TypeId} {x:Operand} {lo hi mx:Option Operand} (ho:o.op=.slice t x lo hi mx) (hs:SR w X loc s a) (h:Av P s (.slice t x lo hi mx)=some v):HL P w X (s.hc loc) a o v:=by
 have hx:=Ca hs.tm x
 simp only [Av] at h
 split at h
 rotate_left
 ·cases h
 rename_i d htd
 obtain ⟨ti,u,f1,f2,f3,f4,f5,f6,f7,f8,f9⟩:=Bf htd
 split at h
 rotate_left
 ·rename_i el m hel hlen
  split at h
  rotate_left
  ·cases h
  rename_i de es i off hde hev
  split at h
  rotate_left
  ·cases h
  rename_i e h' he hh
  split at h
  rotate_left
  ·cases h
  rename_i hcond
  obtain ⟨q1,q2,q3,q4⟩:=hcond
  cases h
  exact Ab3 ho hs htd hel hlen hde hev he hh q1 q2 q3 q4
 ·split at h
  ·rename_i u1 u2 u3 u4 h1 h2 h3 h4
   split at h
   ·rename_i r hr
    cases h
    refine K8 hr ?_
    unfold execOp
    simp only [ho,Fa _ h1 hx,Ov hs h2,Ov hs h3,Ov hs h4]
   ·cases h
  ·cases h
 ·cases h
 rename_i el hel hlen
 have hu:=f7 el hel hlen
 subst hu
 split at h
 rotate_left
 ·cases h
 rename_i de hde
 have key:∀ p len cap l hh m,a.eval x=.slice p len cap→rd P (Instr.sliceBounds true len cap (lo.map a.eval) (hi.map a.eval) (mx.map a.eval)) w=some (l,hh,m)→
   rd P (execOp a.eval o) w=some (.value (.slice (if m=l then p else p.map (·.add (l * de.sz))) (hh - l) (m - l))):=by
  intro p len cap l hh m e1 e2
  unfold execOp
  simp only [ho,e1]
  refine rdv ?_
  unfold Instr.sliceAt
  simp only [Ai,Ar,f2,lx17]
  unfold Instr.slice
  simp only [Ai,Ar,f2,lx17,e2,Hl hde,Ak]
 split at h
 ·rename_i z es hev
  rw [hev] at hx
  generalize hq:a.eval x=c0 at hx
  split at h
  rotate_left
  ·cases h
  rename_i m hm
  split at h
  rotate_left
  ·cases h
  rename_i h' hh
  split at h
  rotate_left
  ·cases h
  rename_i l hl
  split at h
  rotate_left
  ·cases h
  rename_i hcond
  obtain ⟨hall,hxh⟩:=hcond
  cases h
  have hzz:∀ cap,(z=true→cap=es.length)→h'≤m→m≤es.length→(if mx.isSome=true then decide (m=h') else (z && decide (h'=es.length)))=true→(if mx.isSome=true then m else cap)=h':=by
   intro cap hz _ _ hzt
   split at hzt
   ·rename_i hs'
    rw [if_pos hs']
    simpa using hzt
   ·rename_i hs'
    rw [if_neg hs']
    simp only [AH,AR] at hzt
    rw [hz hzt.1,hzt.2]
  have hmx:∀ cap,es.length≤cap→m≤es.length→h'≤m→h'≤(if mx.isSome=true then m else cap)∧(if mx.isSome=true then m else cap)≤cap:=by
   intro cap _ _ _
   split <;> omega
  cases hx with
  | @vw0 _ _ p cap hz hmax=>
   obtain ⟨e1,e2,e3,e4⟩:=Df (P:=P) hs (L:=0) (cap:=cap) (BX _) hm hh hxh hl
   obtain ⟨n1,n2⟩:=hmx cap (BX _) e4 e3
   have n3:=hzz cap (by simpa using hz) e3 e4
   have:h'=0:=Ah
   subst this
   have:l=0:=Ah
   subst this
   refine ⟨_,key _ _ _ _ _ _ hq e1,?_⟩
   exact .vw0 (fun hzt=>n3 hzt) (by omega)
  | @vw1 _ _ _ b base cap esz f hne hX hb hcap hz hmax hsz hc hv=>
   obtain ⟨e1,e2,e3,e4⟩:=Df (P:=P) hs (L:=es.length) (cap:=cap) hcap hm hh hxh hl
   obtain ⟨n1,n2⟩:=hmx cap hcap e4 e3
   have n3:=hzz cap hz e3 e4
   have hes:esz=de.sz:=by
    obtain ⟨e,he⟩:=List.exists_mem_of_ne_nil es hne
    exact (hsz e he).symm.trans (Aos hall e he)
   subst hes
   refine ⟨_,key _ _ _ _ _ _ hq e1,?_⟩
   have hlen2:((es.drop l).take (h' - l)).length=h' - l:=E6
   by_cases hlh:l=h'
   ·subst hlh
    rw [show List.take (l - l) (List.drop l es)=[] by simp,K3]
    exact .vw0 (fun hzt=>by have:=n3 hzt; omega) (by omega)
   ·have hne2:(if mx.isSome=true then m else cap)≠l:=by omega
    rw [if_neg hne2]
    simp only [lx34,Gf]
    have:=VR.vw1 (w:=w) (X:=X) (o:=some (s.hc loc)) (z:=if mx.isSome=true then decide (m=h') else (z && decide (h'=es.length)))
     (es:=(es.drop l).take (h' - l)) (b:=b) (base:=base+l * de.sz) (cap:=(if mx.isSome=true then m else cap) - l) (esz:=de.sz) (fun i j=>f (l+i) j)
     (by intro e; rw [e] at hlen2; simp at hlen2; omega) hX hb (by rw [hlen2]; omega) (fun hzt=>by rw [n3 hzt,hlen2]) (by omega)
     (fun e he=>hsz e (List.mem_of_mem_drop (lx38 he)))
     (fun i j hi hj=>by
      have:=hc (l+i) j (by omega) hj
      rw [Gt] at this
      simpa [Gd] using this)
     (fun i e j u he hu=>by
      rw [lx19] at he
      split at he
      ·rw [lx20] at he
       exact hv (l+i) e j u he hu
      ·cases he)
    rw [hlen2] at this
    exact this
 ·rename_i id ver lo' len hev
  rw [hev] at hx
  generalize hq:a.eval x=c0 at hx
  split at h
  rotate_left
  ·rename_i mx' B hl0
   split at h
   ·rename_i hcond
    cases h
    obtain ⟨c1,c2,c3,c4⟩:=hcond
    obtain ⟨g1,g2,g3⟩:=Ba hl0
    cases hx with
    | sl q1 q2=>
     obtain ⟨r1,r2⟩:=q2 _ rfl
     obtain ⟨r3,r4⟩:=r2 B g1 g2 g3
     rcases r4 with ⟨r4,b,hb⟩ | ⟨b,base,cap,nn,hloc,k1,k2,k3,k4,k5⟩
     ·subst r4
      obtain ⟨e1,e2,e3,e4⟩:=Df (P:=P) hs (L:=0) (cap:=0) (Ax _) c1 c3 (fun _=>c2) c4
      exact ⟨_,key _ _ _ _ _ _ (hq.trans hb) e1,.vw0 (fun _=>rfl) (BX _)⟩
     ·obtain ⟨e1,e2,e3,e4⟩:=Df (P:=P) hs (L:=len) (cap:=cap) k2 c1 c3 (fun _=>c2) c4
      exact ⟨_,key _ _ _ _ _ _ (hq.trans k1) e1,.vw0 (fun _=>rfl) (BX _)⟩
   ·cases h
  ·cases h
  rename_i B hl0
  split at h
  rotate_left
  ·cases h
  rename_i h' hh
  split at h
  rotate_left
  ·cases h
  rename_i l hl
  split at h
  rotate_left
  ·cases h
  rename_i hsz0
  cases h
  obtain ⟨g1,g2,g3⟩:=Ba hl0
  cases hx with
  | sl q1 q2=>
   obtain ⟨r1,r2⟩:=q2 _ rfl
   obtain ⟨r3,r4⟩:=r2 B g1 g2 g3
   have hmN:AT s.T none len len=some len:=rfl
   have same:∀ B',(s.hc loc).H[id]?=some B'→B'=B:=fun B' p1=>Option.some.inj (p1.symm.trans g1)
   rcases r4 with ⟨r4,b,hb⟩ | ⟨b,base,cap,nn,hloc,k1,k2,k3,k4,k5⟩
   ·subst r4
    obtain ⟨e1,e2,e3,e4⟩:=Df (P:=P) hs (L:=0) (cap:=0) (BX _) hmN hh (by simp) hl
    have:h'=0:=Ah
    subst this
    have:l=0:=Ah
    subst this
    refine ⟨_,key _ _ _ _ _ _ (hq.trans hb) e1,.sl ⟨_,_,rfl⟩ ?_⟩
    intro hc1 he1
    cases he1
    refine ⟨r1,fun B' p1 p2 p3=>?_⟩
    cases same B' p1
    exact ⟨by omega,.inl ⟨rfl,_,rfl⟩⟩
   ·obtain ⟨e1,e2,e3,e4⟩:=Df (P:=P) hs (L:=len) (cap:=cap) k2 hmN hh (by simp) hl
    refine ⟨_,key _ _ _ _ _ _ (hq.trans k1) e1,.sl ⟨_,_,rfl⟩ ?_⟩
    intro hc1 he1
    cases he1
    refine ⟨r1,fun B' p1 p2 p3=>?_⟩
    cases same B' p1
    refine ⟨by omega,?_⟩
    simp only [lx9,Em,lx7]
    by_cases hcl:cap=l
    ·rw [if_pos hcl]
     have:h' - l=0:=Ah
     rw [this]
     have:cap - l=0:=Ah
     rw [this]
     exact .inl ⟨rfl,_,rfl⟩
    ·rw [if_neg hcl]
     refine .inr ⟨b,base,cap - l,nn,hloc,?_,by omega,by omega,k4,?_⟩
     ·simp only [lx34,Gf,←hsz0,Gt,Gd]
     ·have:lo'+l+(cap - l)=lo'+cap:=by omega
      rw [this]; exact k5
 ·cases h
theorem Ar2 {o:Oper} {args:Array Operand} {ats:Array TypeId} (ho:o.op=.call { callee:=.builtin .len,args:=args,argTypes:=ats }) (hs:SR w X loc s a)
  (h:Av P s (.call { callee:=.builtin .len,args:=args,argTypes:=ats })=some v):HL P w X (s.hc loc) a o v:=by
 simp only [Av] at h
 split at h
 rotate_left
 ·cases h
 rename_i t x hat har
 have hat':ats=#[t]:=Yk
 have har':args=#[x]:=Yl
 subst hat'; subst har'
 have hx:=Ca hs.tm x
 split at h
 rotate_left
 ·cases h
 rename_i d htd
 obtain ⟨ti,u,f1,f2,f3,f4,f5,f6,f7,f8,f9⟩:=Bf htd
 have key:∀ c,rd P (Builtin.len_ #[t] o.type #[a.eval x]) w=some c→rd P (execOp a.eval o) w=some (.value c):=by
  intro c hc
  unfold execOp
  simp only [ho,resolve,invoke,builtin,Ai,Ak,lx17,List.map_toArray,lx32,lx47,hc]
 split at h
 ·rename_i el hel hlen
  have hu:=f7 el hel hlen
  subst hu
  split at h
  ·rename_i n hn
   cases h
   have:∃ b cap,a.eval x=.slice b n cap:=by
    generalize a.eval x=c0 at hx
    cases hv:ev s.T x <;> rw [hv] at hn hx <;> simp only [W4] at hn <;> try (cases hn; done)
    ·rename_i id ver lo len
     cases hn
     cases hx with
     | sl q1 q2=>exact q1
    ·rename_i z es
     cases hn
     cases hx with
     | vw0 hz hm=>exact ⟨_,_,rfl⟩
     | vw1 f hne hX hb hcap hz hmax hsz hc hv=>exact ⟨_,_,rfl⟩
   obtain ⟨b,cap,hq⟩:=this
   refine ⟨goInt n,key _ ?_,.sc rfl⟩
   rw [hq]
   exact Ao6
  ·cases h
 ·rename_i el m hel hlen
  have hu:=f8 el m hel hlen
  subst hu
  cases h
  refine ⟨goInt m,key _ ?_,.sc rfl⟩
  exact Ao6
 ·split at h
  ·rename_i u1 h1
   split at h
   ·rename_i r hr
    cases h
    refine ⟨r,key _ ?_,Se r⟩
    rw [Fa _ h1 hx]
    exact On hr w
   ·cases h
  ·cases h
 ·cases h
end
theorem F9 {α:Type}:∀ (xs:List α) (cs:List α) (off:Nat),(setAll cs off xs).length=cs.length
 | [],_,_=>rfl
 | x::r,cs,off=>by rw [setAll,F9 r]; simp
theorem VL.setAll {w X o}:∀ {xs:List AV} {us:List Value} {cs:List AV} {vs:List Value} (off:Nat),VL w X o cs vs→VL w X o xs us→VL w X o (setAll cs off xs) (setAll vs off us)
 | [],us,cs,vs,off,h,k=>by rw [k.unnil]; exact h
 | x::r,us,cs,vs,off,h,k=>by
  obtain ⟨u,us',rfl,k1,k2⟩:=k.uncons
  exact VL.setAll (off+1) (h.set off k1) k2
theorem Ow {α:Type}:∀ {xs cs:List α} {off:Nat} {u:α},u ∈ setAll cs off xs→u ∈ cs∨u ∈ xs
 | [],_,_,_,h=>.inl h
 | x::r,cs,off,u,h=>by
  rcases Ow (xs:=r) h with h | h
  ·rcases List.mem_or_eq_of_mem_set h with h | h
   ·exact .inl h
   ·exact .inr (by rw [h]; exact lx48)
  ·exact .inr (lx49 _ h)
theorem Ih (off:Nat):∀ (us:List Value) (k:Nat) (cs:Array Value),
  ((us.zipIdx k).foldl (fun cs (p:Value × Nat)=>cs.setIfInBounds (off+p.2) p.1) cs).toList=setAll cs.toList (off+k) us
 | [],k,cs=>rfl
 | u::r,k,cs=>by
  simp only [List.zipIdx_cons,List.foldl_cons,setAll]
  rw [Ih off r (k+1)]
  simp [Gd]
section
variable {P:Program} {w:World} {X:Nat→Prop} {loc:Nat→Option (Nat × Nat)} {s:St} {a:Act} {v:AV}
theorem Sh {T:List AV} {o:Option HC} (ht:VL w X o T a.tmps.toList) (place:Nat→Option (Nat × Nat)):∀ (ops:List (Nat × Operand)) {cs cs':List AV} {vs:List Value},
  Fo place cs (ops.map fun p=>(p.1,ev T p.2))=some cs'→VL w X o cs vs→(∀ u ∈ vs,u.oneCell'=true)→
  ∃ vs',Instr.fill place vs.toArray (ops.map fun p=>(p.1,a.eval p.2))=some vs'.toArray∧VL w X o cs' vs'∧(∀ u ∈ vs',u.oneCell'=true)
 | [],cs,cs',vs,h,h1,h2=>by
  simp only [lx47,Fo,lx16] at h
  subst h
  exact ⟨vs,rfl,h1,h2⟩
 | (i,x)::r,cs,cs',vs,h,h1,h2=>by
  simp only [lx32,Fo] at h
  split at h
  ·rename_i off size hp
   split at h
   ·rename_i hh
    obtain ⟨c1,c2,c3⟩:=hh
    have hx:=Ca ht x
    obtain ⟨g1,g2⟩:=hx.cells_ok c1
    have hlen:=g1.1
    have hsz:(a.eval x).cells.size=size:=by
     rw [←c2,hlen]; simp
    have h1':=h1.setAll off g1
    obtain ⟨vs',e1,e2,e3⟩:=Sh ht place r (vs:=setAll vs off (a.eval x).cells.toList) h h1' (fun u hu=>by
     rcases Ow hu with hu | hu
     ·exact h2 u hu
     ·exact g2 u hu)
    refine ⟨vs',?_,e2,e3⟩
    have hvl:=h1.1
    have hf:(a.eval x).cells.zipIdx.foldl (fun cs (p:Value × Nat)=>cs.setIfInBounds (off+p.2) p.1) vs.toArray=(setAll vs off (a.eval x).cells.toList).toArray:=by
     apply Array.ext'
     rw [←Array.foldl_toList,Array.toList_zipIdx]
     have:=Ih off (a.eval x).cells.toList 0 vs.toArray
     simpa using this
    simp only [lx32,Instr.fill,hp]
    rw [if_neg (by simp [hsz]; omega)]
    rw [←e1]
    congr 1
   ·cases h
  ·cases h
theorem QI:∀ (fs:List Field) (places:List (Nat × Nat)),(fs.map fun f=>(f.offset,f.type)).mapM (fun (f:Nat × Nat)=>(AY P f.2).map fun df=>(f.1,df.sz))=some places→
  rd P (fs.mapM fun f=>do pure (f.offset,←sizeOf f.type)) w=some places
 | [],places,h=>by simp at h; subst h; simp [Ak]
 | f::fs,places,h=>by
  simp only [lx32,List.mapM_cons,Option.bind_eq_bind,Option.pure_def] at h
  cases hd:AY P f.type with
  | none=>simp [hd] at h
  | some d=>
   cases hr:(fs.map fun f=>(f.offset,f.type)).mapM (fun (f:Nat × Nat)=>(AY P f.2).map fun df=>(f.1,df.sz)) with
   | none=>simp [hd,hr] at h
   | some pl=>
    simp only [hd,hr,lx34,lx17,lx16] at h
    subst h
    have ih:=QI fs pl hr
    simp only [List.mapM_cons,Ai,Hl hd,lx17,ih,Ak]
theorem W8 {z:Value} {zs:List AV} (h:Az z=.ag zs):∃ vs:List Value,z=.agg vs.toArray∧VL w X (some (s.hc loc)) zs vs∧∀ u ∈ vs,u.oneCell'=true:=by
 have hz:=G1 (w:=w) (X:=X) (o:=some (s.hc loc)) z
 rw [h] at hz
 cases hz with
 | ag hl h1 h2=>exact ⟨_,rfl,⟨hl,h1⟩,h2⟩
theorem Ae4 {o:Oper} {t:TypeId} {parts:Array (Nat × Operand)} (ho:o.op=.build t parts) (hs:SR w X loc s a) (h:Av P s (.build t parts)=some v):HL P w X (s.hc loc) a o v:=by
 simp only [Av] at h
 split at h
 rotate_left
 ·cases h
 rename_i d htd
 obtain ⟨ti,u,f1,f2,f3,f4,f5,f6,f7,f8,f9⟩:=Bf htd
 split at h
 rotate_left
 ·cases h
 rename_i z hz
 split at h
 rotate_left
 ·cases h
 rename_i zs hzs
 obtain ⟨zv,hzv,hz1,hz2⟩:=W8 (w:=w) (X:=X) (s:=s) (loc:=loc) hzs
 have hpm:(parts.map fun (p:Nat × Operand)=>(p.1,a.eval p.2)).toList=parts.toList.map fun p=>(p.1,a.eval p.2):=Br
 have key:∀ c,rd P (Instr.build t (parts.map fun (p:Nat × Operand)=>(p.1,a.eval p.2))) w=some c→rd P (execOp a.eval o) w=some (.value c):=by
  intro c hc
  unfold execOp
  simp only [ho]
  exact rdv hc
 have hzero:rd P (zeroValue t) w=some z:=by rw [E8,f1]; simp [f5,hz]
 split at h
 ·rename_i m el hlen hel
  have hu:=f8 el m hel hlen
  subst hu
  split at h
  rotate_left
  ·cases h
  rename_i de hde
  split at h
  ·rename_i cs hcs
   cases h
   obtain ⟨vs',e1,e2,e3⟩:=Sh hs.tm _ parts.toList hcs hz1 hz2
   refine ⟨.agg vs'.toArray,key _ ?_,.ag e2.1 e2.2 e3⟩
   unfold Instr.build
   simp only [Ai,hzero,lx17,Ar,f2,Hl hde,hpm,hzv,Value.cells,e1,Ak]
  ·cases h
 ·rename_i hlen hel
  split at h
  ·rename_i hag
   obtain ⟨fs,hu,hfl⟩:=f9 hlen hel hag
   subst hu
   split at h
   rotate_left
   ·cases h
   rename_i places hpl
   split at h
   ·rename_i cs hcs
    cases h
    rw [hfl] at hpl
    have hp:=QI (w:=w) _ _ hpl
    obtain ⟨vs',e1,e2,e3⟩:=Sh hs.tm _ parts.toList hcs hz1 hz2
    refine ⟨.agg vs'.toArray,key _ ?_,.ag e2.1 e2.2 e3⟩
    unfold Instr.build
    have hmm:rd P (fs.mapM fun f=>do pure (f.offset,←sizeOf f.type)) w=some places.toArray:=by
     rw [Array.mapM_eq_mapM_toList,Ft,hp]; rfl
    have e1':Instr.fill (fun x=>places.toArray[x]?) zv.toArray (parts.toList.map fun p=>(p.1,a.eval p.2))=some vs'.toArray:=by
     simpa using e1
    simp only [Ai,hzero,lx17,Ar,f2,hmm,hpm,hzv,Value.cells,e1',Ak]
   ·cases h
  ·cases h
 ·cases h
theorem QJ {o:Oper} {b:Builtin} (hb:b=.min∨b=.max) {args:Array Operand} {ats:Array TypeId} (ho:o.op=.call { callee:=.builtin b,args:=args,argTypes:=ats }) (hs:SR w X loc s a)
  (h:Av P s (.call { callee:=.builtin b,args:=args,argTypes:=ats })=some v):HL P w X (s.hc loc) a o v:=by
 have hx:=W5 hs.tm args.toList
 have harg:∀ l,De (args.toList.map (ev s.T))=some l→args.map a.eval=l.toArray:=by
  intro l hl
  have:=Ot _ hl hx
  apply Array.ext'
  rw [←this]; simp
 rcases hb with rfl | rfl
 all_goals
  simp only [Av] at h
  split at h
  ·rename_i l hl
   split at h
   ·rename_i r hr
    cases h
    refine ⟨r,?_,Se r⟩
    unfold execOp
    simp only [ho,resolve,invoke,builtin,Ai,Ak,lx17,harg l hl]
    have:=On hr w
    first | rw [show Builtin.min_ ats o.type l.toArray=Builtin.min_ ats 0 l.toArray from rfl,this] | rw [show Builtin.max_ ats o.type l.toArray=Builtin.max_ ats 0 l.toArray from rfl,this]
    rfl
   ·cases h
  ·cases h
theorem Ak3 {o:Oper} (hs:SR w X loc s a) (h:Av P s o.op=some v):HL P w X (s.hc loc) a o v:=by
 cases ho:o.op with
 | move x=>rw [ho] at h; simp only [Av,lx16] at h; rw [←h]; exact Yz (.inl ho) hs
 | assign x=>rw [ho] at h; simp only [Av,lx16] at h; rw [←h]; exact Yz (.inr ho) hs
 | pick c x y=>rw [ho] at h; exact Ak2 ho hs h
 | build t parts=>rw [ho] at h; exact Ae4 ho hs h
 | load t x=>rw [ho] at h; exact Yy ho hs h
 | nilCheck x=>rw [ho] at h; exact TW ho hs h
 | binOp op t x y t'=>rw [ho] at h; exact Ae0 ho hs h
 | unOp op t x=>rw [ho] at h; exact Ak1 ho hs h
 | convert t t' x=>rw [ho] at h; exact W6 ho hs h
 | makeFunc fn first caps=>
  rw [ho] at h
  cases fn with
  | func f=>exact TX ho hs h
  | _=>simp [Av] at h
 | slice t x lo hi mx=>rw [ho] at h; exact Ae3 ho hs h
 | fieldAddr t x f=>rw [ho] at h; exact Sf ho hs h
 | field t x f=>rw [ho] at h; exact Ae1 ho hs h
 | indexAddr t x i=>rw [ho] at h; exact Sg ho hs h
 | index t x i=>rw [ho] at h; exact Ae2 ho hs h
 | extract x i=>rw [ho] at h; exact W7 ho hs h
 | call c=>
  rw [ho] at h
  obtain ⟨callee,args,ats⟩:=c
  cases callee with
  | builtin b=>
   cases b with
   | len=>exact Ar2 ho hs h
   | min=>exact QJ (.inl rfl) ho hs h
   | max=>exact QJ (.inr rfl) ho hs h
   | _=>simp [Av] at h
  | value f=>simp [Av] at h
  | invoke r m=>simp [Av] at h
 | _=>rw [ho] at h; simp [Av] at h
end
end Go.SX
