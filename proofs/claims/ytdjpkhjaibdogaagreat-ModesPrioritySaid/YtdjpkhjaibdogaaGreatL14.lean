/-
  Lemmas towards ModesPriority (joined texts: SXN, SXO, SXQ).
  Conditions: none.
-/
import Derived.Test.YtdjpkhjaibdogaaGreatL01
import Derived.Test.YtdjpkhjaibdogaaGreatL13
set_option linter.unusedSimpArgs false
set_option linter.unusedVariables false
set_option maxRecDepth 100000
namespace Go.SX
open Go.RowKit (Below)
mutual
def AV.fresh:AV→Bool
 | .sc _ | .un | .jk | .pt .. | .sl ..=>true
 | .vw _ es=>es.isEmpty
 | .ag cs | .tu cs=>Cu cs
 | _=>false
def Cu:List AV→Bool
 | []=>true
 | a::r=>a.fresh && Cu r
end
mutual
def AV.freshIn (H:List Blk):AV→Bool
 | .sl id ver _ _=>match AJ H id ver with | some B=>Cu B.els | none=>true
 | .pt id ver _ _=>match AJ H id ver with | some B=>Cu B.els | none=>true
 | .ag cs | .tu cs=>Hb H cs
 | .vw _ es=>es.isEmpty
 | .sc _ | .un | .jk=>true
 | _=>false
def Hb (H:List Blk):List AV→Bool
 | []=>true
 | a::r=>a.freshIn H && Hb H r
end
mutual
theorem NO {w X Y o}:∀ (a:AV) {v:Value},a.fresh=true→VR w X o a v→VR w Y none a v
 | .sc x,v,_,h=>by cases h with | sc h=>exact .sc h
 | .un,v,_,h=>by cases h; exact .un
 | .jk,v,_,_=>.jk
 | .pt ..,v,_,h=>by cases h with | pt h1 h2=>exact .pt h1 (fun _ e=>by cases e)
 | .sl ..,v,_,h=>by cases h with | sl h1 h2=>exact .sl h1 (fun _ e=>by cases e)
 | .vw z [],v,_,h=>by
  cases h with
  | vw0 hz hm=>exact .vw0 hz hm
  | vw1 f hne=>exact absurd rfl hne
 | .vw z (_::_),v,hf,_=>by simp [AV.fresh] at hf
 | .ag cs,v,hf,h=>by
  cases h with
  | ag hl h1 h2=>
   have:=Lu (Y:=Y) cs (by simpa [AV.fresh] using hf) ⟨hl,h1⟩
   exact .ag this.1 this.2 h2
 | .tu cs,v,hf,h=>by
  cases h with
  | tu hl h1=>
   have:=Lu (Y:=Y) cs (by simpa [AV.fresh] using hf) ⟨hl,h1⟩
   exact .tu this.1 this.2
 | .vp ..,v,hf,_=>by simp [AV.fresh] at hf
 | .fn ..,v,hf,_=>by simp [AV.fresh] at hf
theorem Lu {w X Y o}:∀ (as:List AV) {vs:List Value},Cu as=true→VL w X o as vs→VL w Y none as vs
 | [],vs,_,h=>by rw [h.unnil]; exact .nil
 | a::r,vs,hf,h=>by
  obtain ⟨v,vs',rfl,h1,h2⟩:=h.uncons
  simp only [Cu,AH] at hf
  exact .cons (NO a hf.1 h1) (Lu r hf.2 h2)
end
theorem IM:∀ {as:List AV},Cu as=true→∀ a ∈ as,a.fresh=true
 | [],_,a,h=>by cases h
 | b::r,h,a,ha=>by
  simp only [Cu,AH] at h
  rcases lx59.1 ha with rfl | ha
  ·exact h.1
  ·exact IM h.2 a ha
theorem O1 {e:AV} (h:e.fresh=true):∀ a ∈ e.cells,a.fresh=true:=by
 intro a ha
 cases e with
 | ag cs=>
  have h':Cu cs=true:=by simpa [AV.fresh] using h
  exact IM h' a ha
 | _=>simp only [AV.cells,lx70] at ha; subst ha; exact h
mutual
theorem IN {w X Y hc} (hr:HR w X hc) (ho:∀ b,Own hc b→¬ Y b):∀ (a:AV) {v:Value},a.freshIn hc.H=true→VR w X (some hc) a v→VR w Y (some Cc) (Am hc.H a) v
 | .sc x,v,_,h=>by cases h with | sc h=>exact .sc h
 | .un,v,_,h=>by cases h; exact .un
 | .jk,v,_,_=>.jk
 | .vw z [],v,_,h=>by
  cases h with
  | vw0 hz hm=>exact .vw0 hz hm
  | vw1 f hne=>exact absurd rfl hne
 | .vw z (_::_),v,hf,_=>by simp [AV.freshIn] at hf
 | .vp ..,v,hf,_=>by simp [AV.freshIn] at hf
 | .fn ..,v,hf,_=>by simp [AV.freshIn] at hf
 | .ag cs,v,hf,h=>by
  cases h with
  | ag hl h1 h2=>
   have:=JV hr ho cs (by simpa [AV.freshIn] using hf) ⟨hl,h1⟩
   exact .ag this.1 this.2 h2
 | .tu cs,v,hf,h=>by
  cases h with
  | tu hl h1=>
   have:=JV hr ho cs (by simpa [AV.freshIn] using hf) ⟨hl,h1⟩
   exact .tu this.1 this.2
 | .pt id ver i off,v,hf,h=>by
  simp only [Am]
  split
  ·rename_i B hl
   simp only [AV.freshIn,hl] at hf
   obtain ⟨b,base,h1,h2,h3,⟨cs,h4⟩,h5⟩:=Gy hr h hl
   obtain ⟨g1,g2,g3⟩:=Bc hl
   subst h2
   refine .vp (fun i j=>(w.cell? ⟨b,base+i * B.esz+j,none⟩).getD undef) (ho b ⟨id,B,base,g1,g2,h1⟩) (hr.lt b h3) ?_ ?_ ?_
   ·exact Aym
   ·intro i j hi hj
    exact Aqn
   ·intro i e j a he ha
    obtain ⟨q1,q2⟩:=h5 i e he
    obtain ⟨c,e1,e2,e3⟩:=q2 j a ha
    rw [e1]
    exact NO a (O1 (IM hf e (lx25 he)) a (lx25 ha)) e3
  ·exact .jk
 | .sl id ver lo len,v,hf,h=>by
  simp only [Am]
  split
  ·rename_i B hl
   simp only [AV.freshIn,hl] at hf
   obtain ⟨g1,g2,g3⟩:=Bc hl
   cases h with
   | sl q1 q2=>
    obtain ⟨r1,r2⟩:=q2 _ rfl
    obtain ⟨r3,r4⟩:=r2 B g1 g2 g3
    have hlen:((B.els.drop lo).take len).length=len:=F6
    have hB:=hr.blk id B g1 g2
    rcases r4 with ⟨r4,p,hp⟩ | ⟨b,base,cap,nn,hloc,k1,k2,k3,k4,k5⟩
    ·exact Ajq
    ·have hB2:=hB.2.2
     rw [hloc] at hB2
     obtain ⟨m1,⟨cs,m2⟩,m3⟩:=hB2
     subst k1
     by_cases h0:len=0
     ·exact Ajr
     ·have hne:(B.els.drop lo).take len≠[]:=by intro e; rw [e] at hlen; simp at hlen; omega
      have hget:∀ i e,((B.els.drop lo).take len)[i]?=some e→B.els[lo+i]?=some e:=by
       intro i e he
       rw [lx19] at he
       split at he
       ·rwa [lx20] at he
       ·cases he
      have:=VR.vw1 (w:=w) (X:=Y) (o:=some Cc) (z:=false) (es:=(B.els.drop lo).take len) (b:=b) (base:=base+lo * B.esz) (cap:=cap) (esz:=B.esz)
       (fun i j=>(w.cell? ⟨b,base+lo * B.esz+i * B.esz+j,none⟩).getD undef) hne (ho b ⟨id,B,base,g1,g2,hloc⟩) (hr.lt b m1) (by rw [hlen]; exact k2) (fun h=>by cases h) k3
       (fun e he=>by
        obtain ⟨i,hi⟩:=lx44.1 he
        exact (m3 _ e (hget i e hi)).1)
       (fun i j hi hj=>by
        have he:((B.els.drop lo).take len)[i]?=some ((B.els.drop lo).take len)[i]:=lx50 hi
        obtain ⟨q1,q2⟩:=m3 _ _ (hget i _ he)
        obtain ⟨c,e1,e2,e3⟩:=q2 j (((B.els.drop lo).take len)[i].cells[j]'(by omega)) (by simp)
        rw [Gx,←F0] at e1
        rw [e1]
        exact ⟨rfl,e2⟩)
       (fun i e j a he ha=>by
        obtain ⟨q1,q2⟩:=m3 _ e (hget i e he)
        obtain ⟨c,e1,e2,e3⟩:=q2 j a ha
        rw [Gx,←F0] at e1
        rw [e1]
        exact NO a (O1 (IM hf e (lx25 (hget i e he))) a (lx25 ha)) e3)
      rw [hlen] at this
      exact this
  ·exact .jk
theorem JV {w X Y hc} (hr:HR w X hc) (ho:∀ b,Own hc b→¬ Y b):∀ (as:List AV) {vs:List Value},Hb hc.H as=true→VL w X (some hc) as vs→VL w Y (some Cc) (Aj hc.H as) vs
 | [],vs,_,h=>by rw [h.unnil]; exact .nil
 | a::r,vs,hf,h=>by
  obtain ⟨v,vs',rfl,h1,h2⟩:=h.uncons
  simp only [Hb,AH] at hf
  exact .cons (IN hr ho a hf.1 h1) (JV hr ho r hf.2 h2)
end
def C4 (P:Program) (f:FuncId) (args:List AV) (r:AV):Prop:=
 Ia P f∧r.noref=true∧∀ (w:World) (cargs:Array Value),VL w QQ (some Cc) args cargs.toList→
  Calls P f cargs w fun e w'=>∃ c,e=.returned c∧VR w' (fun b=>b < w.heap.size) (some Cc) r c∧Below w.heap.size w w'
def FOk (P:Program) (g:Nat) (F:List AV→Option AV):Prop:=∀ args r,F args=some r→C4 P g args r
inductive FOks (P:Program):List (Nat × (List AV→Option AV))→Prop
 | nil:FOks P []
 | cons {g F r} (h:FOk P g F) (t:FOks P r):FOks P ((g,F)::r)
theorem Am9 {P:Program} {g:Nat} {α:Type} {q:α→Prop} {enc:α→List AV} {out:α→AV} (h:∀ x,q x→C4 P g (enc x) (out x)):FOk P g (EF q enc out):=by
 exact Ayp
theorem RP {P:Program} {f:FuncId} {args:List AV} {r:AV} {H:List Blk} {cnt:Nat} (hv:C4 P f (Aj H args) r):HSpec P f args H cnt r H cnt:=by
 obtain ⟨h1,h2,h3⟩:=hv
 refine ⟨h1,fun w X loc cargs hr hl=>?_⟩
 refine (h3 w cargs (Fg (hc:=⟨loc,H,cnt⟩) hr args hl)).mono ?_
 rintro e w' ⟨c,rfl,g1,g2⟩
 exact ⟨X,loc,c,rfl,hr.below g2,F7 _ h2 (g1.antiX (fun b hb=>hr.lt b hb)).close,DL g2 X _⟩
def hcF (H:List Blk) (cnt:Nat):Option AV→Option (AV × List Blk × Nat)
 | some r=>some (r,H,cnt)
 | none=>none
theorem YR (H:List Blk) (cnt:Nat) (r:AV):hcF H cnt (some r)=some (r,H,cnt):=rfl
def Ab0 (l lf:List (Nat × (List AV→Option AV))):Env:=⟨Ds l,pl l,fun g args H cnt=>hcF H cnt (pl lf g (Aj H args)),false,fun _=>none,fun _=>false⟩
theorem YS (l lf:List (Nat × (List AV→Option AV))):(Ab0 l lf).lit=false:=rfl
theorem Un (l lf:List (Nat × (List AV→Option AV))) (i:Nat):(Ab0 l lf).perm i=none:=rfl
theorem Aeu (l lf:List (Nat × (List AV→Option AV))) (g:Nat):(Ab0 l lf).hb g=false:=rfl
theorem YT (l lf:List (Nat × (List AV→Option AV))) (f:Nat):(Ab0 l lf).isP f=Ds l f:=rfl
theorem RQ (l lf:List (Nat × (List AV→Option AV))) (f:Nat) (a:List AV):(Ab0 l lf).pcall f a=pl l f a:=rfl
theorem AF {P:Program} {l lf:List (Nat × (List AV→Option AV))} (h:POks P l) (hf:FOks P lf):EnvOk P (Ab0 l lf) where
 p:=(Kt h).p
 h f args H cnt r H' cnt' he:=by
  simp only [Ab0] at he
  cases hp:pl lf f (Aj H args) with
  | none=>rw [hp] at he; simp [hcF] at he
  | some q=>
   rw [hp] at he
   simp only [hcF,lx16,lx40] at he
   obtain ⟨rfl,rfl,rfl⟩:=he
   refine RP ?_
   induction hf with
   | nil=>simp [pl] at hp
   | @cons g F l h t ih=>
    simp only [pl] at hp
    split at hp
    ·rename_i hh; subst hh; exact h _ q hp
    ·exact ih hp
theorem YU {P:Program} {E:Env} (hE:EnvOk P E) (hm:P.follows .mixedOrders=true) {f:FuncId} {fn:Func} {c:Code} {args:List AV} {r:AV}
  (hf:P.funcs[f]?=some fn) (hb:fn.body=some c) (hn:(fn.name == "runtime.NumGoroutine")=false) (hlex:C2 E.hb E.perm c=true) (hr:r.noref=true)
  (h:Go P E 0 fn.results.toList (fun r' s'=>Am s'.H r'=r∧r'.freshIn s'.H=true) [.code c] (Ae fn args [] 0)):C4 P f args r:=by
 refine ⟨⟨fn,hf,hn,by rw [hb]; rfl⟩,hr,fun w cargs hv=>?_⟩
 refine (DG hE hm hf hb hlex (H:=[]) (cnt:=0) (R:=fun r' s'=>Am s'.H r'=r∧r'.freshIn s'.H=true) h w QQ (fun _=>none) cargs (Kp w) hv).mono ?_
 rintro e w' ⟨r',s',X',loc',c',rfl,⟨rfl,hfr⟩,g1,g2,g3⟩
 have hown:∀ b,Own (s'.hc loc') b→¬ b < w.heap.size:=by
  exact Ayg
 refine ⟨c',rfl,IN g1 hown _ hfr g2,g3.os,g3.tape,g3.output,g3.size,fun k hk=>g3.keep k hk ?_⟩
 exact Ah3
theorem IP {α:Type} {f:α→AV} (h:∀ x,(f x).fresh=true):∀ l:List α,Cu (l.map f)=true
 | []=>by simp [Cu]
 | x::r=>by simp [Cu,h x,IP h r]
end Go.SX
namespace Go.SX
section
variable (d:Option Nat) (ty:TypeId) (pos:String) (af:Array Edge) (g:Option (Nat × Bool)) (X Y:Option St)
theorem Bm vx:Fb true ⟨d,.move vx,ty,pos,af,g⟩ X Y=X:=rfl
theorem Bg vx:Fb true ⟨d,.assign vx,ty,pos,af,g⟩ X Y=X:=rfl
theorem Db va vb vc:Fb true ⟨d,.pick va vb vc,ty,pos,af,g⟩ X Y=X:=rfl
theorem Cp ve:Fb true ⟨d,.alloc ve,ty,pos,af,g⟩ X Y=X:=rfl
theorem ET ve vv:Fb true ⟨d,.box ve vv,ty,pos,af,g⟩ X Y=X:=rfl
theorem Cg vt vp:Fb true ⟨d,.build vt vp,ty,pos,af,g⟩ X Y=X:=rfl
theorem JW va vb vc vd:Fb true ⟨d,.insert va vb vc vd,ty,pos,af,g⟩ X Y=X:=rfl
theorem Ch vt vx:Fb true ⟨d,.load vt vx,ty,pos,af,g⟩ X Y=X:=rfl
theorem BZ vt va vv:Fb true ⟨d,.store vt va vv,ty,pos,af,g⟩ X Y=X:=rfl
theorem Lv vg:Fb true ⟨d,.ready vg,ty,pos,af,g⟩ X Y=X:=rfl
theorem Lw vg:Fb true ⟨d,.waits vg,ty,pos,af,g⟩ X Y=X:=rfl
theorem Bo vx:Fb true ⟨d,.nilCheck vx,ty,pos,af,g⟩ X Y=X:=rfl
theorem Bn vo vt vx vy vu:Fb true ⟨d,.binOp vo vt vx vy vu,ty,pos,af,g⟩ X Y=X:=rfl
theorem CH vo vt vx:Fb true ⟨d,.unOp vo vt vx,ty,pos,af,g⟩ X Y=X:=rfl
theorem GF vs vt vx:Fb true ⟨d,.convert vs vt vx,ty,pos,af,g⟩ X Y=X:=rfl
theorem C3 vd vx:Fb true ⟨d,.sliceToArrayPointer vd vx,ty,pos,af,g⟩ X Y=X:=rfl
theorem Eo vt vx:Fb true ⟨d,.makeInterface vt vx,ty,pos,af,g⟩ X Y=X:=rfl
theorem HQ vf va vb:Fb true ⟨d,.makeFunc vf va vb,ty,pos,af,g⟩ X Y=X:=rfl
theorem IQ vt vr:Fb true ⟨d,.makeMap vt vr,ty,pos,af,g⟩ X Y=X:=rfl
theorem HS vt vs:Fb true ⟨d,.makeChan vt vs,ty,pos,af,g⟩ X Y=X:=rfl
theorem IS vt vx va vb vc:Fb true ⟨d,.slice vt vx va vb vc,ty,pos,af,g⟩ X Y=X:=rfl
theorem Be vt vx vf:Fb true ⟨d,.fieldAddr vt vx vf,ty,pos,af,g⟩ X Y=X:=rfl
theorem Ep vt vx vf:Fb true ⟨d,.field vt vx vf,ty,pos,af,g⟩ X Y=X:=rfl
theorem CN vt vx vi:Fb true ⟨d,.indexAddr vt vx vi,ty,pos,af,g⟩ X Y=X:=rfl
theorem Lx vt vx vi:Fb true ⟨d,.index vt vx vi,ty,pos,af,g⟩ X Y=X:=rfl
theorem JX vt vx vi vc:Fb true ⟨d,.lookup vt vx vi vc,ty,pos,af,g⟩ X Y=X:=rfl
theorem Hc vt va vb vc:Fb true ⟨d,.mapUpdate vt va vb vc,ty,pos,af,g⟩ X Y=X:=rfl
theorem HT vt va vb:Fb true ⟨d,.mapEntry vt va vb,ty,pos,af,g⟩ X Y=X:=rfl
theorem Gq vt va vb vc:Fb true ⟨d,.entryStore vt va vb vc,ty,pos,af,g⟩ X Y=X:=rfl
theorem Ly vt vx:Fb true ⟨d,.range vt vx,ty,pos,af,g⟩ X Y=X:=rfl
theorem NP vi vs:Fb true ⟨d,.next vi vs,ty,pos,af,g⟩ X Y=X:=rfl
theorem Lz vi:Fb true ⟨d,.entry vi,ty,pos,af,g⟩ X Y=X:=rfl
theorem Gr vx vt vu vc:Fb true ⟨d,.typeAssert vx vt vu vc,ty,pos,af,g⟩ X Y=X:=rfl
theorem CY vt vi:Fb true ⟨d,.extract vt vi,ty,pos,af,g⟩ X Y=X:=rfl
theorem B4 vc:Fb true ⟨d,.call vc,ty,pos,af,g⟩ X Y=X:=rfl
theorem Vw vc:Fb true ⟨d,.go vc,ty,pos,af,g⟩ X Y=X:=rfl
theorem LB vc:Fb true ⟨d,.defer vc,ty,pos,af,g⟩ X Y=X:=rfl
theorem LC vx:Fb true ⟨d,.panic vx,ty,pos,af,g⟩ X Y=X:=rfl
theorem NQ vc vx:Fb true ⟨d,.send vc vx,ty,pos,af,g⟩ X Y=X:=rfl
theorem NR vt vc vo:Fb true ⟨d,.recv vt vc vo,ty,pos,af,g⟩ X Y=X:=rfl
theorem JY vc vb:Fb true ⟨d,.select vc vb,ty,pos,af,g⟩ X Y=X:=rfl
theorem Ab1 (t:TypeId) (n:Nat) (ps:Array (Nat × Operand)) (h:Nat × Bool):Fb true ⟨d,.buildSlice t n ps,ty,pos,af,some h⟩ X Y=X:=rfl
theorem Ab2 (t:TypeId) (a b:Operand) (h:Nat × Bool):Fb true ⟨d,.makeSlice t a b,ty,pos,af,some h⟩ X Y=X:=rfl
end
end Go.SX
namespace Go.SX
open Go.RowKit (Below)
theorem Fj:∀ T:List AV,OU T T
 | []=>trivial
 | _::T=>⟨.inr rfl,Fj T⟩
theorem Aq:∀ H:List Blk,JQ H H
 | []=>trivial
 | _::H=>⟨.inr rfl,Aq H⟩
theorem DN (D:List Blk):∀ H:List Blk,JQ (H++D) H
 | []=>by cases D <;> trivial
 | _::H=>⟨.inr rfl,DN D H⟩
theorem Uo (H:List Blk) (v:Value):BQ H (.sc v)=H:=rfl
def dead:Blk:=⟨false,0,0,0,[],false⟩
theorem La {P:Program} {s:St} (f:FuncId) (caps:Array Operand):Ay P s (.makeFunc (.func f) #[] caps)=some (.fn f (caps.toList.map (ev s.T))):=by simp [Ay]
def Lb (a b i:Nat):Nat:=if i=a then b else if i=b then a else i
theorem Ku (a b i:Nat):Lb a b (Lb a b i)=i:=by
 unfold Lb
 by_cases h1:i=a
 ·subst h1; by_cases h2:b=i
  ·simp [h2]
  ·simp [h2]
 ·by_cases h2:i=b
  ·subst h2; simp [h1]
  ·simp [h1,h2]
inductive Ren (a b:Nat):AV→AV→Prop
 | same {v:AV} (h:v.noref=true):Ren a b v v
 | jk {v:AV}:Ren a b v .jk
 | pt (id ver i off:Nat):Ren a b (.pt id ver i off) (.pt (Lb a b id) ver i off)
 | sl (id ver lo len:Nat):Ren a b (.sl id ver lo len) (.sl (Lb a b id) ver lo len)
 | ag {cs ds:List AV} (hl:cs.length=ds.length) (h:∀ (i:Nat) (c d:AV),cs[i]?=some c→ds[i]?=some d→Ren a b c d):Ren a b (.ag cs) (.ag ds)
def Ahq (a b:Nat):List AV→List AV→Prop
 | [],[]=>True
 | x::l,y::m=>Ren a b x y∧Ahq a b l m
 | _,_=>False
theorem Ii {a b:Nat}:∀ {l m:List AV},Ahq a b l m→l.length=m.length∧∀ (i:Nat) (c d:AV),l[i]?=some c→m[i]?=some d→Ren a b c d
 | [],[],_=>⟨rfl,fun i c d h=>by simp at h⟩
 | x::l,y::m,h=>by
  obtain ⟨h1,h2⟩:=Ii h.2
  refine ⟨by simp [h1],fun i c d hc hd=>?_⟩
  cases i with
  | zero=>simp at hc hd; subst hc; subst hd; exact h.1
  | succ i=>simp at hc hd; exact h2 i c d hc hd
 | [],_::_,h=>h.elim
 | _::_,[],h=>h.elim
theorem Ahr {a b:Nat} {x y:AV} (h:Ren a b x y) (hj:y≠.jk):x.cells.length=y.cells.length∧∀ (i:Nat) (c d:AV),x.cells[i]?=some c→y.cells[i]?=some d→Ren a b c d:=by
 cases h with
 | same h=>
  refine ⟨rfl,fun i c d hc hd=>?_⟩
  rw [hc] at hd; cases hd
  refine .same ?_
  cases x with
  | ag cs=>
   simp only [AV.cells] at hc
   have h':norefs cs=true:=by simpa [AV.noref] using h
   have:∀ {l:List AV},norefs l=true→∀ e ∈ l,e.noref=true:=by
    intro l hl e he
    induction l with
    | nil=>cases he
    | cons z l ih=>
     simp only [norefs,AH] at hl
     rcases lx59.1 he with rfl | he
     ·exact hl.1
     ·exact ih hl.2 he
   exact this h' c (lx25 hc)
  | _=>
   simp only [AV.cells] at hc
   have:=lx25 hc
   rw [lx70] at this
   subst this; exact h
 | jk=>exact absurd rfl hj
 | pt id ver k off=>
  refine ⟨rfl,fun i c d hc hd=>?_⟩
  cases i with
  | zero=>simp [AV.cells] at hc hd; subst hc; subst hd; exact .pt ..
  | succ i=>simp [AV.cells] at hc
 | sl id ver lo len=>
  refine ⟨rfl,fun i c d hc hd=>?_⟩
  cases i with
  | zero=>simp [AV.cells] at hc hd; subst hc; subst hd; exact .sl ..
  | succ i=>simp [AV.cells] at hc
 | ag hl h=>exact ⟨hl,h⟩
def Ard (a b:Nat) (A A':Blk):Prop:=A.live=true∧A.ver=A'.ver∧A.ty=A'.ty∧A.esz=A'.esz∧Ahq a b A.els A'.els∧∀ e ∈ A'.els,e≠.jk
theorem Azd {w:World} {X:Nat→Prop} {hc hc':HC} {a b:Nat} (hcnt:hc'.cnt=hc.cnt) (hloc:∀ i,hc'.loc i=hc.loc (Lb a b i))
  (hH:∀ (j:Nat) (A':Blk),hc'.H[j]?=some A'→A'.live=true→∃ A,hc.H[Lb a b j]?=some A∧Ard a b A A') {x y:AV} {v:Value} (h:Ren a b x y) (hv:VR w X (some hc) x v):VR w X (some hc') y v:=by
 induction h generalizing v with
 | same h=>exact F7 _ h hv.close
 | jk=>exact .jk
 | pt id ver i off=>
  cases hv with
  | pt h1 h2=>
   refine .pt h1 fun hc1 e=>?_
   cases e
   obtain ⟨g1,g2⟩:=h2 hc rfl
   refine ⟨by rw [hcnt]; exact g1,fun B' e1 e2 e3=>?_⟩
   obtain ⟨B,k1,k2⟩:=hH _ B' e1 e2
   rw [Ku] at k1
   obtain ⟨b',base,q1,q2⟩:=g2 B k1 k2.1 (k2.2.1.trans e3)
   exact ⟨b',base,by rw [hloc,Ku]; exact q1,by rw [q2,k2.2.2.2.1]⟩
 | sl id ver lo len=>
  cases hv with
  | sl h1 h2=>
   refine .sl h1 fun hc1 e=>?_
   cases e
   obtain ⟨g1,g2⟩:=h2 hc rfl
   refine ⟨by rw [hcnt]; exact g1,fun B' e1 e2 e3=>?_⟩
   obtain ⟨B,k1,k2⟩:=hH _ B' e1 e2
   rw [Ku] at k1
   obtain ⟨q0,q1⟩:=g2 B k1 k2.1 (k2.2.1.trans e3)
   refine ⟨by rw [←(Ii k2.2.2.2.2.1).1]; exact q0,?_⟩
   rcases q1 with q1 | ⟨b',base,cap,n,p0,p1,p2,p3,p4,p5⟩
   ·exact .inl q1
   ·exact .inr ⟨b',base,cap,n,by rw [hloc,Ku]; exact p0,by rw [p1,k2.2.2.2.1],p2,p3,by rw [←k2.2.2.1]; exact p4,by rw [←k2.2.2.2.1]; exact p5⟩
 | ag hl h ih=>
  cases hv with
  | ag hl' h1 h2=>
   exact Bd2
theorem Aze {w:World} {X:Nat→Prop} {loc:Nat→Option (Nat × Nat)} {act:Act} {T T':List AV} {H H':List Blk} {c n0 a b:Nat} (hs:SR w X loc ⟨T,H,c⟩ act) (ha:n0≤a) (hb:n0≤b)
  (hT:Ahq a b T T') (hH:∀ (j:Nat) (A':Blk),H'[j]?=some A'→A'.live=true→∃ A,H[Lb a b j]?=some A∧Ard a b A A'):
  ∃ X' loc',SR w X' loc' ⟨T',H',c⟩ act∧∀ w0 X0 Cc,Cc.H.length=n0→Evo w0 X0 Cc w X ((⟨T,H,c⟩:St).hc loc)→Evo w0 X0 Cc w X' ((⟨T',H',c⟩:St).hc loc'):=by
 obtain ⟨h1,h2,h3⟩:=hs
 have hvr:∀ {x y:AV} {v:Value},Ren a b x y→VR w X (some ⟨loc,H,c⟩) x v→VR w X (some ⟨fun i=>loc (Lb a b i),H',c⟩) y v:=
  fun h hv=>Azd (hc:=⟨loc,H,c⟩) (hc':=⟨fun i=>loc (Lb a b i),H',c⟩) rfl (fun _=>rfl) hH h hv
 have hlow:∀ j,Lb a b j < n0→Lb a b j=j:=by
  intro j hj
  unfold Lb at hj ⊢
  by_cases e1:j=a
  ·rw [if_pos e1] at hj; omega
  ·rw [if_neg e1] at hj ⊢
   by_cases e2:j=b
   ·rw [if_pos e2] at hj; omega
   ·rw [if_neg e2]
 refine ⟨X,fun i=>loc (Lb a b i),⟨⟨?_,?_,h1.lt⟩,?_,h3⟩,?_⟩
 ·intro j B' e1 e2
  obtain ⟨B,k1,k2,k3,k4,k5,k6,k7⟩:=hH j B' e1 e2
  obtain ⟨g1,g2,g3⟩:=h1.blk _ B k1 k2
  have hlen:=(Ii k6).1
  refine ⟨by rw [←k3]; exact g1,by rw [←hlen]; exact g2,?_⟩
  show match loc (Lb a b j) with
   | none=>B'.els=[]
   | some (b',base)=>X b'∧(∃ cs,w.heap[b']?=some (.cells cs B'.ty (0,0)))∧ElsOk w X ⟨fun i=>loc (Lb a b i),H',c⟩ b' base B'
  have g3':match loc (Lb a b j) with
   | none=>B.els=[]
   | some (b',base)=>X b'∧(∃ cs,w.heap[b']?=some (.cells cs B.ty (0,0)))∧ElsOk w X ⟨loc,H,c⟩ b' base B:=g3
  cases hl:loc (Lb a b j) with
  | none=>
   rw [hl] at g3'
   exact Ayn
  | some p=>
   obtain ⟨b',base⟩:=p
   rw [hl] at g3'
   simp only at g3' ⊢
   obtain ⟨q1,⟨cs,q2⟩,q3⟩:=g3'
   refine ⟨q1,⟨cs,by rw [←k4]; exact q2⟩,fun i e he=>?_⟩
   have hi:i < B'.els.length:=(lx22.1 he).1
   have he0:B.els[i]?=some (B.els[i]'(by omega)):=lx50 (by omega)
   obtain ⟨r1,r2⟩:=q3 i _ he0
   have hre:=(Ii k6).2 i _ e he0 he
   obtain ⟨s1,s2⟩:=Ahr hre (k7 e (lx25 he))
   refine ⟨by rw [←s1,←k5]; exact r1,fun m d hd=>?_⟩
   have hm:m < e.cells.length:=(lx22.1 hd).1
   have Cc:=lx50 (l:=(B.els[i]'(by omega)).cells) (i:=m) (by omega)
   obtain ⟨u,t1,t2,t3⟩:=r2 m _ Cc
   exact ⟨u,by rw [←k5]; exact t1,t2,hvr (s2 m _ d Cc hd) t3⟩
 ·intro j j' B1 B2 b' o o' e1 e2 e3 e4 e5 e6
  obtain ⟨A1,k1,k2⟩:=hH j B1 e1 e3
  obtain ⟨A2,l1,l2⟩:=hH j' B2 e2 e4
  have:=h1.inj _ _ A1 A2 b' o o' k1 l1 k2.1 l2.1 e5 e6
  rw [←Ku a b j,this,Ku]
 ·obtain ⟨e1,e2⟩:=Ii hT
  exact Ay9
 ·intro w0 X0 Cc hn he
  refine ⟨he.os,he.tape,he.output,he.size,he.keep,he.shape,he.xs,he.cnt,?_,?_⟩
  ·intro j B' e1 e2 e3
   obtain ⟨B,k1,k2,k3,k4,k5,k6,k7⟩:=hH j B' e1 e2
   obtain ⟨B0,g1,g2,g3,g4,g5,g6,g7⟩:=he.old (Lb a b j) B k1 k2 (by rw [k3]; exact e3)
   have hlt:Lb a b j < n0:=by rw [←hn]; exact (lx22.1 g1).1
   have hj:=hlow j hlt
   rw [hj] at g1
   have g4':loc (Lb a b j)=Cc.loc (Lb a b j):=g4
   refine ⟨B0,g1,g2,g3.trans k3,?_,g5.trans k5,g6.trans k4,g7.trans (Ii k6).1⟩
   show loc (Lb a b j)=Cc.loc j
   rw [g4',hj]
  ·intro j B' b' o e1 e2 e3 e4
   obtain ⟨B,k1,k2,_⟩:=hH j B' e1 e2
   obtain ⟨B0,o',g1,g2,g3⟩:=he.fresh (Lb a b j) B b' o k1 k2 e3 e4
   have hlt:Lb a b j < n0:=by rw [←hn]; exact (lx22.1 g1).1
   have hj:=hlow j hlt
   rw [hj] at g1 g3
   exact ⟨B0,o',g1,g2,g3⟩
section
variable {P:Program} {E:Env} {n0:Nat} {rs:List ResultVar} {R:AV→St→Prop}
theorem Are {k:List Item} {T T':List AV} {H H':List Blk} {c:Nat} (a b:Nat) (ha:n0≤a) (hb:n0≤b) (hT:Ahq a b T T')
  (hH:∀ (j:Nat) (A':Blk),H'[j]?=some A'→A'.live=true→∃ A,H[Lb a b j]?=some A∧Ard a b A A') (h:Go P E n0 rs R k ⟨T',H',c⟩):Go P E n0 rs R k ⟨T,H,c⟩:=
 .ghost (s':=⟨T',H',c⟩) (fun w X loc act hs=>Aze hs ha hb hT hH) h
end
section
variable {P:Program} {E:Env} {n0:Nat} {rs:List ResultVar} {R:AV→St→Prop}
end
inductive WkV (H:List Blk):AV→AV→Prop
 | refl (v:AV):WkV H v v
 | jk (v:AV):WkV H v .jk
 | vw (z:Bool) (es:List AV):WkV H (.vw z es) (.vw false es)
 | sl0 (id ver lo:Nat) (h:(AJ H id ver).isSome=true):WkV H (.sl id ver lo 0) (.vw false [])
 | ag {cs ds:List AV} (hl:cs.length=ds.length) (h:∀ (i:Nat) (c d:AV),cs[i]?=some c→ds[i]?=some d→WkV H c d):WkV H (.ag cs) (.ag ds)
 | tu {cs ds:List AV} (hl:cs.length=ds.length) (h:∀ (i:Nat) (c d:AV),cs[i]?=some c→ds[i]?=some d→WkV H c d):WkV H (.tu cs) (.tu ds)
def WkL (H:List Blk):List AV→List AV→Prop
 | [],[]=>True
 | a::l,b::m=>WkV H a b∧WkL H l m
 | _,_=>False
theorem Kv {H:List Blk}:∀ {l m:List AV},WkL H l m→l.length=m.length∧∀ (i:Nat) (c d:AV),l[i]?=some c→m[i]?=some d→WkV H c d
 | [],[],_=>⟨rfl,fun i c d h=>by simp at h⟩
 | x::l,y::m,h=>by
  obtain ⟨h1,h2⟩:=Kv h.2
  refine ⟨by simp [h1],fun i c d hc hd=>?_⟩
  cases i with
  | zero=>simp at hc hd; subst hc; subst hd; exact h.1
  | succ i=>simp at hc hd; exact h2 i c d hc hd
 | [],_::_,h=>h.elim
 | _::_,[],h=>h.elim
theorem Ab3 {H:List Blk}:∀ {l m:List AV},l.length=m.length→(∀ (i:Nat) (c d:AV),l[i]?=some c→m[i]?=some d→WkV H c d)→WkL H l m
 | [],[],_,_=>trivial
 | x::l,y::m,hl,h=>⟨h 0 x y rfl rfl,Ab3 (by simpa using hl) fun i c d hc hd=>h (i+1) c d (by simpa using hc) (by simpa using hd)⟩
 | [],_::_,h,_=>by simp at h
 | _::_,[],h,_=>by simp at h
theorem RR (H:List Blk):∀ l:List AV,WkL H l l
 | []=>trivial
 | x::l=>⟨.refl x,RR H l⟩
theorem YV (H:List Blk) (a:AV):WkV H a a=True:=eq_true (.refl a)
theorem Amb (H:List Blk) (a:AV):WkV H a .jk=True:=eq_true (.jk a)
theorem Amc (H:List Blk) (z:Bool) (es:List AV):WkV H (.vw z es) (.vw false es)=True:=eq_true (.vw z es)
theorem Amd (H:List Blk) (cs ds:List AV):WkV H (.ag cs) (.ag ds)=WkL H cs ds:=propext ⟨fun h=>by
 cases h with
 | refl=>exact RR H _
 | ag hl h=>exact Ab3 hl h,fun h=>.ag (Kv h).1 (Kv h).2⟩
theorem Ame (H:List Blk) (cs ds:List AV):WkV H (.tu cs) (.tu ds)=WkL H cs ds:=propext ⟨fun h=>by
 cases h with
 | refl=>exact RR H _
 | tu hl h=>exact Ab3 hl h,fun h=>.tu (Kv h).1 (Kv h).2⟩
theorem Aev (H:List Blk):WkL H [] []=True:=rfl
theorem YW (H:List Blk) (a b:AV) (l m:List AV):WkL H (a::l) (b::m)=(WkV H a b∧WkL H l m):=rfl
theorem NS {w:World} {X:Nat→Prop} {hc:HC} {a b:AV} (h:WkV hc.H a b):∀ {v:Value},VR w X (some hc) a v→VR w X (some hc) b v:=by
 induction h with
 | refl=>exact fun hv=>hv
 | jk=>exact fun _=>.jk
 | vw z es=>
  intro v hv
  cases hv with
  | vw0 hz hm=>exact .vw0 (fun h=>by cases h) hm
  | vw1 f hne hX hb hcap hz hmax hsz hc' hv'=>exact .vw1 f hne hX hb hcap (fun h=>by cases h) hmax hsz hc' hv'
 | sl0 id ver lo h=>
  intro v hv
  cases hv with
  | sl g1 g2=>
   obtain ⟨k1,k2⟩:=g2 _ rfl
   obtain ⟨B,hB⟩:=Option.isSome_iff_exists.1 h
   obtain ⟨e1,e2,e3⟩:=Bc hB
   rcases (k2 B e1 e2 e3).2 with ⟨_,a,rfl⟩ | ⟨b',base,cap,n,_,rfl,_,hm,_⟩
   ·exact .vw0 (fun h=>by cases h) (Bq _)
   ·exact .vw0 (fun h=>by cases h) hm
 | ag hl h ih=>
  intro v hv
  cases hv with
  | ag g1 g2 g3=>
   refine .ag (hl.symm.trans g1) (fun i d u hd hu=>?_) g3
   exact Bdh
 | tu hl h ih=>
  intro v hv
  cases hv with
  | tu g1 g2=>
   refine .tu (hl.symm.trans g1) (fun i d u hd hu=>?_)
   exact Bdh
theorem Amf {H:List Blk} {e e':AV} (h:WkV H e e') (hj:e'≠.jk):e.cells.length=e'.cells.length∧∀ (j:Nat) (a a':AV),e.cells[j]?=some a→e'.cells[j]?=some a'→WkV H a a':=by
 have one:∀ {x y:AV},WkV H x y→x.cells=[x]→y.cells=[y]→x.cells.length=y.cells.length∧∀ (j:Nat) (a a':AV),x.cells[j]?=some a→y.cells[j]?=some a'→WkV H a a':=by
  intro x y hw hx hy
  rw [hx,hy]
  refine ⟨rfl,fun j a a' h1 h2=>?_⟩
  cases j with
  | zero=>simp at h1 h2; subst h1; subst h2; exact hw
  | succ j=>simp at h1
 cases h with
 | refl=>exact ⟨rfl,fun j a a' h1 h2=>by rw [h1] at h2; cases h2; exact .refl _⟩
 | jk=>exact absurd rfl hj
 | vw z es=>exact one (.vw z es) rfl rfl
 | sl0 id ver lo h=>exact one (.sl0 id ver lo h) rfl rfl
 | ag hl h=>exact ⟨hl,h⟩
 | tu hl h=>exact one (.tu hl h) rfl rfl
def Hs:List AV→Bool
 | []=>true
 | .jk::_=>false
 | _::l=>Hs l
theorem MC:∀ {l:List AV},Hs l=true→∀ e ∈ l,e≠.jk
 | [],_,e,he=>by cases he
 | a::l,h,e,he=>by
  rcases lx59.1 he with rfl | he
  ·rintro rfl; simp [Hs] at h
  ·refine MC (l:=l) ?_ e he
   cases a <;> simp_all [Hs]
def WkB (H:List Blk) (a b:Blk):Prop:=a.live=true∧a.ver=b.ver∧a.ty=b.ty∧a.esz=b.esz∧WkL H a.els b.els∧Hs b.els=true
def WkH (H0:List Blk):List Blk→List Blk→Prop
 | _,[]=>True
 | [],b::H'=>b.live=false∧WkH H0 [] H'
 | a::H,b::H'=>(b.live=false∨a=b∨WkB H0 a b)∧WkH H0 H H'
theorem Pw (H0 H:List Blk):WkH H0 H []=True:=by cases H <;> rfl
theorem Cj (H0:List Blk) (a b:Blk) (H H':List Blk):WkH H0 (a::H) (b::H')=((b.live=false∨a=b∨WkB H0 a b)∧WkH H0 H H'):=rfl
theorem Hd (H0:List Blk):∀ H:List Blk,WkH H0 H H
 | []=>trivial
 | _::H=>⟨.inr (.inl rfl),Hd H0 H⟩
theorem Up (H0 H:List Blk):WkH H0 H H=True:=eq_true (Hd H0 H)
theorem Ci (H0 D:List Blk):∀ H:List Blk,WkH H0 (H++D) H
 | []=>by cases D <;> trivial
 | _::H=>⟨.inr (.inl rfl),Ci H0 D H⟩
theorem Amg (H:List Blk) (l l':Bool) (v v' t t' e e':Nat) (es es':List AV) (p p':Bool):WkB H ⟨l,v,t,e,es,p⟩ ⟨l',v',t',e',es',p'⟩=(l=true∧v=v'∧t=t'∧e=e'∧WkL H es es'∧Hs es'=true):=rfl
theorem MD:Hs []=true:=rfl
theorem Px (cs l:List AV):Hs (.ag cs::l)=Hs l:=rfl
theorem Aew (v:Value) (l:List AV):Hs (.sc v::l)=Hs l:=rfl
theorem Arf (z:Bool) (es l:List AV):Hs (.vw z es::l)=Hs l:=rfl
theorem Arh (i v o n:Nat) (l:List AV):Hs (.sl i v o n::l)=Hs l:=rfl
theorem RS {H0:List Blk}:∀ {H H':List Blk},WkH H0 H H'→∀ (i:Nat) (b:Blk),H'[i]?=some b→b.live=true→∃ a,H[i]?=some a∧(a=b∨WkB H0 a b)
 | _,[],_,i,b,h,_=>by simp at h
 | [],b::H',h,i,c,hc,hl=>by
  cases i with
  | zero=>simp at hc; subst hc; rw [h.1] at hl; cases hl
  | succ i=>
   simp at hc
   obtain ⟨a,h1,_⟩:=RS h.2 i c hc hl
   simp at h1
 | a::H,b::H',h,i,c,hc,hl=>by
  cases i with
  | zero=>
   simp at hc; subst hc
   rcases h.1 with h1 | h1
   ·rw [h1] at hl; cases hl
   ·exact ⟨a,rfl,h1⟩
  | succ i=>
   simp at hc
   obtain ⟨a',h1,h2⟩:=RS h.2 i c hc hl
   exact ⟨a',by simpa using h1,h2⟩
theorem Amh {w:World} {X:Nat→Prop} {hc:HC} (hr:HR w X hc) {H':List Blk} {cnt':Nat} (h:WkH hc.H hc.H H') (hcnt:hc.cnt≤cnt'):
  HR w X ⟨hc.loc,H',cnt'⟩∧Evo w X hc w X ⟨hc.loc,H',cnt'⟩:=by
 have key:∀ (i:Nat) (b:Blk),H'[i]?=some b→b.live=true→∃ a,hc.H[i]?=some a∧a.live=true∧a.ver=b.ver∧a.ty=b.ty∧a.esz=b.esz∧a.els.length=b.els.length∧
   ∀ (j:Nat) (e e':AV),a.els[j]?=some e→b.els[j]?=some e'→e.cells.length=e'.cells.length∧∀ (m:Nat) (x x':AV),e.cells[m]?=some x→e'.cells[m]?=some x'→WkV hc.H x x':=by
  intro i b hb hl
  obtain ⟨a,h1,h2⟩:=RS h i b hb hl
  rcases h2 with rfl | ⟨g1,g2,g3,g4,g5,g6⟩
  ·exact ⟨a,h1,hl,rfl,rfl,rfl,rfl,fun j e e' he he'=>by
    rw [he] at he'; cases he'
    exact ⟨rfl,fun m x x' h3 h4=>by rw [h3] at h4; cases h4; exact .refl _⟩⟩
  ·obtain ⟨k1,k2⟩:=Kv g5
   exact ⟨a,h1,g1,g2,g3,g4,k1,fun j e e' he he'=>Amf (k2 j e e' he he') (MC g6 e' (lx25 he'))⟩
 have ev:Evo w X hc w X ⟨hc.loc,H',cnt'⟩:=by
  refine ⟨rfl,rfl,rfl,Av _,fun _ _ _=>rfl,fun _ _ h=>h,fun _ _=>Iff.rfl,hcnt,?_,?_⟩
  ·intro k B e1 e2 e3
   obtain ⟨a,k1,k2,k3,k4,k5,k6,_⟩:=key k B e1 e2
   exact ⟨a,k1,k2,k3,rfl,k5,k4,k6⟩
  ·intro k B b o e1 e2 e3 e4
   obtain ⟨a,k1,k2,_⟩:=key k B e1 e2
   exact ⟨a,o,k1,k2,e3⟩
 refine ⟨⟨?_,?_,hr.lt⟩,ev⟩
 ·intro k B e1 e2
  obtain ⟨a,k1,k2,k3,k4,k5,k6,k7⟩:=key k B e1 e2
  obtain ⟨q1,q2,q3⟩:=hr.blk k a k1 k2
  have q1':a.ver < hc.cnt:=q1
  refine ⟨by rw [←k3]; exact Lg q1' hcnt,by rw [←k6]; exact q2,?_⟩
  show match hc.loc k with
   | none=>B.els=[]
   | some (b,base)=>X b∧(∃ cs,w.heap[b]?=some (.cells cs B.ty (0,0)))∧ElsOk w X ⟨hc.loc,H',cnt'⟩ b base B
  cases hl:hc.loc k with
  | none=>
   rw [hl] at q3
   simp only at q3 ⊢
   rw [q3] at k6
   exact List.length_eq_zero_iff.1 k6.symm
  | some p=>
   obtain ⟨b,base⟩:=p
   rw [hl] at q3
   simp only at q3 ⊢
   obtain ⟨p1,⟨cs,p2⟩,p3⟩:=q3
   refine ⟨p1,⟨cs,by rw [←k4]; exact p2⟩,fun i e he=>?_⟩
   have hi:i < B.els.length:=(lx22.1 he).1
   have he0:a.els[i]?=some (a.els[i]'(by omega)):=lx50 (by omega)
   obtain ⟨r1,r2⟩:=p3 i _ he0
   obtain ⟨s1,s2⟩:=k7 i _ e he0 he
   refine ⟨by rw [←s1,←k5]; exact r1,fun m d hd=>?_⟩
   have hm:m < e.cells.length:=(lx22.1 hd).1
   have Cc:=lx50 (l:=(a.els[i]'(by omega)).cells) (i:=m) (by omega)
   obtain ⟨u,t1,t2,t3⟩:=r2 m _ Cc
   exact ⟨u,by rw [←k5]; exact t1,t2,(NS (s2 m _ d Cc hd) t3).mono ev hr⟩
 ·intro k k' B1 B2 b o o' e1 e2 e3 e4 e5 e6
  obtain ⟨a1,k1,k2,_⟩:=key k B1 e1 e3
  obtain ⟨a2,l1,l2,_⟩:=key k' B2 e2 e4
  exact hr.inj k k' a1 a2 b o o' k1 l1 k2 l2 e5 e6
section
variable {P:Program} {E:Env} {n0:Nat} {rs:List ResultVar} {R:AV→St→Prop}
end
noncomputable def mkH {α:Type} (q:α→Prop) (enc:α→List AV × List Blk × Nat) (out:α→AV × List Blk × Nat) (args:List AV) (H:List Blk) (cnt:Nat):Option (AV × List Blk × Nat):=
 open Classical in if h:∃ x,q x∧enc x=(args,H,cnt) then some (out (Classical.choose h)) else none
theorem IT {α:Type} {q:α→Prop} {enc:α→List AV × List Blk × Nat} {out:α→AV × List Blk × Nat} (x:α) (hq:q x) (hi:∀ y,q y→enc y=enc x→out y=out x):mkH q enc out (enc x).1 (enc x).2.1 (enc x).2.2=some (out x):=by
 unfold mkH
 have h:∃ y,q y∧enc y=((enc x).1,(enc x).2.1,(enc x).2.2):=⟨x,hq,rfl⟩
 rw [dif_pos h,hi _ (lx93 h).1 (lx93 h).2]
def Jo (P:Program) (g:Nat) (F:List AV→List Blk→Nat→Option (AV × List Blk × Nat)):Prop:=∀ args H cnt r H' cnt',F args H cnt=some (r,H',cnt')→HSpec P g args H cnt r H' cnt'
theorem IU {P:Program} {g:Nat} {α:Type} {q:α→Prop} {enc:α→List AV × List Blk × Nat} {out:α→AV × List Blk × Nat}
  (h:∀ x,q x→HSpec P g (enc x).1 (enc x).2.1 (enc x).2.2 (out x).1 (out x).2.1 (out x).2.2):Jo P g (mkH q enc out):=by
 intro args H cnt r H' cnt' hr
 unfold mkH at hr
 split at hr
 ·rename_i hx
  injection hr with hr
  have h1:=(lx93 hx).1
  have h2:=(lx93 hx).2
  have h3:=h _ h1
  rw [h2,hr] at h3
  exact h3
 ·cases hr
inductive HOks (P:Program):List (Nat × (List AV→List Blk→Nat→Option (AV × List Blk × Nat)))→Prop
 | nil:HOks P []
 | cons {g F r} (h:Jo P g F) (t:HOks P r):HOks P ((g,F)::r)
def DO:List (Nat × (List AV→List Blk→Nat→Option (AV × List Blk × Nat)))→Nat→Bool
 | [],_=>false
 | (g,_)::r,f=>if f=g then true else DO r f
def hl:List (Nat × (List AV→List Blk→Nat→Option (AV × List Blk × Nat)))→Nat→List AV→List Blk→Nat→Option (AV × List Blk × Nat)
 | [],_,_,_,_=>none
 | (g,F)::r,f,a,H,c=>if f=g then F a H c else hl r f a H c
def YX (l lv lf:List (Nat × (List AV→Option AV))) (lh:List (Nat × (List AV→List Blk→Nat→Option (AV × List Blk × Nat)))) (lit:Bool) (pm:Nat→Option (List Nat)):Env:=
 ⟨Ds l,pl l,fun g args H cnt=>if DO lh g=true then hl lh g args H cnt else if Ds lf g=true then hcF H cnt (pl lf g (Aj H args)) else hcV H cnt (norefs args) (pl lv g args),lit,pm,DO lh⟩
section
variable (l lv lf:List (Nat × (List AV→Option AV))) (lh:List (Nat × (List AV→List Blk→Nat→Option (AV × List Blk × Nat)))) (lit:Bool) (pm:Nat→Option (List Nat))
theorem YY:(YX l lv lf lh lit pm).lit=lit:=rfl
theorem Uq (i:Nat):(YX l lv lf lh lit pm).perm i=pm i:=rfl
theorem Aex (g:Nat):(YX l lv lf lh lit pm).hb g=(DO lh g && !Ds l g):=rfl
theorem YZ (f:Nat):(YX l lv lf lh lit pm).isP f=Ds l f:=rfl
theorem RT (f:Nat) (a:List AV):(YX l lv lf lh lit pm).pcall f a=pl l f a:=rfl
theorem RU (f:Nat) (a:List AV) (H:List Blk) (cnt:Nat):(YX l lv lf lh lit pm).hcall f a H cnt=if DO lh f=true then hl lh f a H cnt else if Ds lf f=true then hcF H cnt (pl lf f (Aj H a)) else hcV H cnt (norefs a) (pl lv f a):=rfl
end
theorem Af {P:Program} {l lv lf:List (Nat × (List AV→Option AV))} {lh:List (Nat × (List AV→List Blk→Nat→Option (AV × List Blk × Nat)))} {lit:Bool} {pm:Nat→Option (List Nat)}
  (h:POks P l) (hv:VOks P lv) (hf:FOks P lf) (hh:HOks P lh):EnvOk P (YX l lv lf lh lit pm) where
 p:=(Kt h).p
 h f args H cnt r H' cnt' he:=by
  simp only [YX] at he
  split at he
  ·induction hh with
   | nil=>simp [hl] at he
   | @cons g F r' h t ih=>
    simp only [hl] at he
    split at he
    ·rename_i hh; subst hh; exact h _ _ _ _ _ _ he
    ·rename_i h1 h2
     refine ih ?_ he
     simp only [DO] at h1
     rw [if_neg h2] at h1
     exact h1
  ·split at he
   ·exact (AF h hf).h f args H cnt r H' cnt' he
   ·exact (Arb h hv).h f args H cnt r H' cnt' he
theorem Ad {P:Program} {E:Env} (hE:EnvOk P E) (hm:P.follows .mixedOrders=true) {f:FuncId} {fn:Func} {c:Code} {args:List AV} {H H':List Blk} {cnt cnt':Nat} {r:AV}
  (hf:P.funcs[f]?=some fn) (hb:fn.body=some c) (hn:(fn.name == "runtime.NumGoroutine")=false) (hlex:C2 E.hb E.perm c=true)
  (h:Go P E H.length fn.results.toList (fun r' s'=>WkV s'.H r' r∧WkH s'.H s'.H H'∧s'.cnt≤cnt') [.code c] (Ae fn args H cnt)):HSpec P f args H cnt r H' cnt':=by
 refine ⟨⟨fn,hf,hn,by rw [hb]; rfl⟩,fun w X loc cargs hr hv=>?_⟩
 refine (DG hE hm hf hb hlex h w X loc cargs hr hv).mono ?_
 rintro e w' ⟨r',s',X',loc',c',rfl,⟨h0,h1,h2⟩,g1,g2,g3⟩
 obtain ⟨q1,q2⟩:=Amh (hc:=s'.hc loc') (H':=H') (cnt':=cnt') g1 h1 h2
 exact ⟨X',loc',c',rfl,q1,(NS (hc:=s'.hc loc') h0 g2).mono q2 g1,g3.trans q2⟩
theorem BP {P:Program} {E:Env} (hE:EnvOk P E) (hm:P.follows .mixedOrders=true) {f:FuncId} {fn:Func} {c:Code} {args:List AV} {r:AV}
  (hf:P.funcs[f]?=some fn) (hb:fn.body=some c) (hn:(fn.name == "runtime.NumGoroutine")=false) (hlex:C2 E.hb E.perm c=true) (hr:r.noref=true)
  (h:Go P E 0 fn.results.toList (fun r' s'=>WkV [] (Am s'.H r') r) [.code c] (Ae fn args [] 0)):Ba P f args r:=by
 refine ⟨⟨fn,hf,hn,by rw [hb]; rfl⟩,hr,fun w X0 cargs hx hv=>?_⟩
 have Kp:HR w X0 ⟨fun _=>none,[],0⟩:=⟨fun id B h1 _=>by simp at h1,fun id id' B B' b o o' h1=>by simp at h1,hx⟩
 refine (DG hE hm hf hb hlex (H:=[]) (cnt:=0) (R:=fun r' s'=>WkV [] (Am s'.H r') r) h w X0 (fun _=>none) cargs Kp hv).mono ?_
 rintro e w' ⟨r',s',X',loc',c',rfl,h0,g1,g2,g3⟩
 have hown:∀ b,Own (s'.hc loc') b→¬ X0 b:=by
  exact Bdr
 refine ⟨c',rfl,NS (hc:=Cc) h0 (RK g1 (fun b hb0=>(g3.xs b (hx b hb0)).2 hb0) hown _ g2),g3.os,g3.tape,g3.output,g3.size,fun k hk=>g3.keep k hk ?_⟩
 exact Ah3
theorem EU {P:Program} {E:Env} (hE:EnvOk P E) (hm:P.follows .mixedOrders=true) {f:FuncId} {fn:Func} {c:Code} {args:List AV} {r:AV}
  (hf:P.funcs[f]?=some fn) (hb:fn.body=some c) (hn:(fn.name == "runtime.NumGoroutine")=false) (hlex:C2 E.hb E.perm c=true) (hr:r.noref=true)
  (h:Go P E 0 fn.results.toList (fun r' s'=>WkV [] (Am s'.H r') r∧r'.freshIn s'.H=true) [.code c] (Ae fn args [] 0)):C4 P f args r:=by
 refine ⟨⟨fn,hf,hn,by rw [hb]; rfl⟩,hr,fun w cargs hv=>?_⟩
 refine (DG hE hm hf hb hlex (H:=[]) (cnt:=0) (R:=fun r' s'=>WkV [] (Am s'.H r') r∧r'.freshIn s'.H=true) h w QQ (fun _=>none) cargs (Kp w) hv).mono ?_
 rintro e w' ⟨r',s',X',loc',c',rfl,⟨h0,hfr⟩,g1,g2,g3⟩
 have hown:∀ b,Own (s'.hc loc') b→¬ b < w.heap.size:=by
  exact Ayg
 refine ⟨c',rfl,NS (hc:=Cc) h0 (IN g1 hown _ hfr g2),g3.os,g3.tape,g3.output,g3.size,fun k hk=>g3.keep k hk ?_⟩
 exact Ah3
end Go.SX
