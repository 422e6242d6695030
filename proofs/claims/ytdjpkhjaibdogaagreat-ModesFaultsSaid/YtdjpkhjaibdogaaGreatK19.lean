/-
  Lemmas towards ModesFaults (joined texts: SYL, SYM, SXF, SXG, SYC).
  Conditions: none.
-/
import Derived.Test.YtdjpkhjaibdogaaGreatK01
import Derived.Test.YtdjpkhjaibdogaaGreatK18
import Derived.Test.YtdjpkhjaibdogaaGreatK12
import Derived.ProofKit
import Derived.ChangeOld
import Derived.OpenShut
import Derived.ShutString
import Derived.Test.YtdjpkhjaibdogaaGreatK17
set_option linter.unusedSimpArgs false
set_option linter.unusedVariables false
set_option maxRecDepth 100000
namespace Go.SX
open Go.RowKit (Below)
theorem Al7 {w:World} {X:Nat→Prop} {loc:Nat→Option (Nat × Nat)} {act:Act} {T T':List AV} {H H':List Blk} {c c' ver ty esz:Nat} {q:Nat} (hs:SR w X loc ⟨T,H,c⟩ act) (hq:q < H'.length) (hv:c≤ver) (hv':ver < c')
  (hT:Xv q ver T T') (hH:NwH q ver H H'):
  ∃ X' loc',SR w X' loc' ⟨T',H'.set q ⟨true,ver,ty,esz,[],false⟩,c'⟩ act∧∀ w0 X0 BW,Evo w0 X0 BW w X ((⟨T,H,c⟩:St).hc loc)→Evo w0 X0 BW w X' ((⟨T',H'.set q ⟨true,ver,ty,esz,[],false⟩,c'⟩:St).hc loc'):=by
 obtain ⟨h1,h2,h3⟩:=hs
 obtain ⟨hl,hg⟩:=S6 hH
 have hnew:∀ k (B:Blk),(H'.set q (⟨true,ver,ty,esz,[],false⟩:Blk))[k]?=some B→(k≠q∧H'[k]?=some B)∨(k=q∧B=⟨true,ver,ty,esz,[],false⟩):=by
  intro k B hk
  rw [lx21] at hk
  split at hk
  ·rename_i hkq
   cases hk
   exact .inr ⟨hkq.symm,rfl⟩
  ·rename_i hkq; exact .inl ⟨fun h=>hkq h.symm,hk⟩
 have key:∀ (k:Nat) (B:Blk),H'[k]?=some B→B.live=true→∃ A,H[k]?=some A∧A.live=true∧A.ver=B.ver∧A.ty=B.ty∧A.esz=B.esz∧Xv q ver A.els B.els:=by
  exact Aub
 have ev:Evo w X ⟨loc,H,c⟩ w X ⟨fun k=>if k=q then none else loc k,H'.set q ⟨true,ver,ty,esz,[],false⟩,c'⟩:=by
  refine ⟨rfl,rfl,rfl,Ax _,fun _ _ _=>rfl,fun _ _ hs=>hs,fun _ _=>Iff.rfl,by simp only; omega,?_,?_⟩
  ·intro id B' e1 e2 e3
   simp only at e1 e3 ⊢
   rcases hnew id B' e1 with ⟨hl',e1⟩ | ⟨rfl,rfl⟩
   ·obtain ⟨A,g1,g2,g3,g4,g5,g6⟩:=key id B' e1 e2
    exact ⟨A,g1,g2,g3,by rw [if_neg hl'],g5,g4,(Gc g6).1⟩
   ·simp only at e3; omega
  ·intro id B' b o e1 e2 e3 e4
   simp only at e1 e3 ⊢
   rcases hnew id B' e1 with ⟨hl',e1⟩ | ⟨rfl,rfl⟩
   ·rw [if_neg hl'] at e3
    obtain ⟨A,g1,g2,_⟩:=key id B' e1 e2
    exact ⟨A,o,g1,g2,e3⟩
   ·rw [if_pos rfl] at e3; cases e3
 have hid:(H'.set q (⟨true,ver,ty,esz,[],false⟩:Blk))[q]?=some ⟨true,ver,ty,esz,[],false⟩:=by rw [lx21,if_pos rfl,if_pos hq]
 have hvr:∀ {x y:AV} {v:Value},NwV q ver x y→VR w X (some ⟨loc,H,c⟩) x v→VR w X (some ⟨fun k=>if k=q then none else loc k,H'.set q ⟨true,ver,ty,esz,[],false⟩,c'⟩) y v:=
  fun h hv=>Ap6 ev h1 (by exact hv') hid h hv
 refine ⟨X,fun k=>if k=q then none else loc k,⟨⟨?_,?_,h1.lt⟩,?_,h3⟩,fun w0 X0 BW he=>he.trans ev⟩
 ·intro id B e1 e2
  rcases hnew id B e1 with ⟨hl',e1⟩ | ⟨rfl,rfl⟩
  ·obtain ⟨A,k1,k2,k3,k4,k5,k6⟩:=key id B e1 e2
   obtain ⟨g1,g2,g3⟩:=h1.blk id A k1 k2
   have g1':A.ver < c:=g1
   have hlen:=(Gc k6).1
   refine ⟨by simp only [St.hc]; omega,by rw [←hlen]; exact g2,?_⟩
   show match (if id=q then none else loc id) with
    | none=>B.els=[]
    | some (b,base)=>X b∧(∃ cs,w.heap[b]?=some (.cells cs B.ty (0,0)))∧ElsOk w X ⟨fun k=>if k=q then none else loc k,H'.set q ⟨true,ver,ty,esz,[],false⟩,c'⟩ b base B
   rw [if_neg hl']
   have g3':match loc id with
    | none=>A.els=[]
    | some (b,base)=>X b∧(∃ cs,w.heap[b]?=some (.cells cs A.ty (0,0)))∧ElsOk w X ⟨loc,H,c⟩ b base A:=g3
   cases hlc:loc id with
   | none=>
    rw [hlc] at g3'
    exact Adn
   | some p=>
    exact Au4
  ·refine ⟨hv',by simp [Dr],?_⟩
   simp only [St.hc,lx6]
 ·intro j j' B1 B2 b' o o' e1 e2 e3 e4 e5 e6
  simp only [St.hc] at e1 e2 e5 e6
  rcases hnew j B1 e1 with ⟨hl1,e1⟩ | ⟨rfl,rfl⟩
  ·rcases hnew j' B2 e2 with ⟨hl2,e2⟩ | ⟨rfl,rfl⟩
   ·rw [if_neg hl1] at e5; rw [if_neg hl2] at e6
    exact Ao1
   ·rw [if_pos rfl] at e6; cases e6
  ·rw [if_pos rfl] at e5; cases e5
 ·obtain ⟨e1,e2⟩:=Gc hT
  exact Aqo
theorem Wa {P:Program} {E:Env} {n0:Nat} {rs:List ResultVar} {R:AV→St→Prop} {k:List Item} {T T':List AV} {H H':List Blk} {c:Nat} (q ver ty esz c':Nat) (hq:q < H'.length) (hv:c≤ver) (hv':ver < c')
  (hT:Xv q ver T T') (hH:NwH q ver H H') (h:Go P E n0 rs R k ⟨T',H'.set q ⟨true,ver,ty,esz,[],false⟩,c'⟩):Go P E n0 rs R k ⟨T,H,c⟩:=
 .ghost (s':=⟨T',H'.set q ⟨true,ver,ty,esz,[],false⟩,c'⟩) (fun w X loc act hs=>by
  obtain ⟨X',loc',h1,h2⟩:=Al7 (ty:=ty) (esz:=esz) hs hq hv hv' hT hH
  exact ⟨X',loc',h1,fun w0 X0 BW _ he=>h2 w0 X0 BW he⟩) h
end Go.SX
namespace Go.SX
theorem Arr {w:World} {X:Nat→Prop} {loc:Nat→Option (Nat × Nat)} {H:List Blk} {c:Nat} (h:HR w X ⟨loc,H,c⟩) (id n:Nat) (B:Blk) (hB:H[id]?=some B) (hl:B.live=true):
  HR w X ⟨loc,H.set id ⟨true,c,B.ty,B.esz,B.els.take n,false⟩,c+1⟩∧Evo w X ⟨loc,H,c⟩ w X ⟨loc,H.set id ⟨true,c,B.ty,B.esz,B.els.take n,false⟩,c+1⟩:=by
 have hid:id < H.length:=(lx22.1 hB).1
 have hnew:∀ k (A:Blk),(H.set id (⟨true,c,B.ty,B.esz,B.els.take n,false⟩:Blk))[k]?=some A→(k≠id∧H[k]?=some A)∨(k=id∧A=⟨true,c,B.ty,B.esz,B.els.take n,false⟩):=by
  intro k A hk
  rw [lx21] at hk
  split at hk
  ·rename_i hkq
   cases hk
   exact .inr ⟨hkq.symm,rfl⟩
  ·rename_i hkq; exact .inl ⟨fun h=>hkq h.symm,hk⟩
 have ev:Evo w X ⟨loc,H,c⟩ w X ⟨loc,H.set id ⟨true,c,B.ty,B.esz,B.els.take n,false⟩,c+1⟩:=by
  refine ⟨rfl,rfl,rfl,Ax _,fun _ _ _=>rfl,fun _ _ hs=>hs,fun _ _=>Iff.rfl,Nat.le_succ _,?_,?_⟩
  ·intro k A e1 e2 e3
   rcases hnew k A e1 with ⟨g1,g2⟩ | ⟨g1,g2⟩
   ·exact ⟨A,g2,e2,rfl,rfl,rfl,rfl,rfl⟩
   ·subst g2; simp only at e3; omega
  ·intro k A b o e1 e2 e3 e4
   rcases hnew k A e1 with ⟨g1,g2⟩ | ⟨g1,g2⟩
   ·exact ⟨A,o,g2,e2,e3⟩
   ·subst g1; exact ⟨B,o,hB,hl,e3⟩
 refine ⟨⟨?_,?_,h.lt⟩,ev⟩
 ·intro k A e1 e2
  rcases hnew k A e1 with ⟨g1,g2⟩ | ⟨g1,g2⟩
  ·exact h.rest ev g2 e2 rfl (fun _ _ _=>rfl) (fun _ hx=>hx)
  ·subst g2; subst g1
   obtain ⟨k1,k2,k3⟩:=h.blk k B hB hl
   refine ⟨IY _,Og (by rw [lx68]; omega) k2,?_⟩
   have k3':match loc k with
    | none=>B.els=[]
    | some (b,base)=>X b∧(∃ cs,w.heap[b]?=some (.cells cs B.ty (0,0)))∧ElsOk w X ⟨loc,H,c⟩ b base B:=k3
   show match loc k with
    | none=>B.els.take n=[]
    | some (b,base)=>X b∧(∃ cs,w.heap[b]?=some (.cells cs B.ty (0,0)))∧ElsOk w X _ b base ⟨true,c,B.ty,B.esz,B.els.take n,false⟩
   cases hlc:loc k with
   | none=>
    rw [hlc] at k3'
    simp only at k3' ⊢
    rw [k3',List.take_nil]
   | some p=>
    obtain ⟨b,base⟩:=p
    rw [hlc] at k3'
    simp only at k3' ⊢
    obtain ⟨q1,q2,q3⟩:=k3'
    refine ⟨q1,q2,fun i e he=>?_⟩
    simp only at he
    rw [lx19] at he
    split at he
    ·obtain ⟨r1,r2⟩:=q3 i e he
     refine ⟨r1,fun j a ha=>?_⟩
     obtain ⟨u,t1,t2,t3⟩:=r2 j a ha
     exact ⟨u,t1,t2,t3.mono ev h⟩
    ·cases he
 ·intro j j' A A' b o o' e1 e2 e3 e4 e5 e6
  have key:∀ (k:Nat) (A:Blk),(H.set id (⟨true,c,B.ty,B.esz,B.els.take n,false⟩:Blk))[k]?=some A→A.live=true→∃ A0:Blk,H[k]?=some A0∧A0.live=true:=by
   intro k A g1 g2
   rcases hnew k A g1 with ⟨_,g⟩ | ⟨g,_⟩
   ·exact ⟨A,g,g2⟩
   ·subst g; exact ⟨B,hB,hl⟩
  obtain ⟨A0,k1,k2⟩:=key j A e1 e3
  obtain ⟨A1,l1,l2⟩:=key j' A' e2 e4
  exact h.inj j j' A0 A1 b o o' k1 l1 k2 l2 e5 e6
theorem Ars {w:World} {X:Nat→Prop} {loc:Nat→Option (Nat × Nat)} {H:List Blk} {c:Nat} {id n:Nat} {B:Blk} (hB:H[id]?=some B) (hl:B.live=true) {u:Value} (hv:VR w X (some ⟨loc,H,c⟩) (.sl id B.ver 0 n) u):
  VR w X (some ⟨loc,H.set id ⟨true,c,B.ty,B.esz,B.els.take n,false⟩,c+1⟩) (.sl id c 0 n) u:=by
 have hid:id < H.length:=(lx22.1 hB).1
 cases hv with
 | sl h1 h2=>
  refine .sl h1 fun hc hhc=>?_
  cases hhc
  obtain ⟨g1,g2⟩:=h2 _ rfl
  obtain ⟨g3,g4⟩:=g2 B hB hl rfl
  refine ⟨IY _,fun A hA _ _=>?_⟩
  have hA':(H.set id (⟨true,c,B.ty,B.esz,B.els.take n,false⟩:Blk))[id]?=some A:=hA
  rw [List.getElem?_set_self hid] at hA'
  cases hA'
  refine ⟨by rw [lx68]; omega,?_⟩
  exact g4
theorem HSpec.cut {P:Program} {f:FuncId} {args:List AV} {H H':List Blk} {cnt cnt' id n:Nat} {B:Blk} (h:HSpec P f args H cnt (.sl id B.ver 0 n) H' cnt') (hB:H'[id]?=some B) (hl:B.live=true):
  HSpec P f args H cnt (.sl id cnt' 0 n) (H'.set id ⟨true,cnt',B.ty,B.esz,B.els.take n,false⟩) (cnt'+1):=by
 refine ⟨h.1,fun w X loc cargs hr hv=>(h.2 w X loc cargs hr hv).mono ?_⟩
 rintro e w' ⟨X',loc',c,rfl,g1,g2,g3⟩
 obtain ⟨k1,k2⟩:=Arr g1 id n B hB hl
 exact ⟨X',loc',c,rfl,k1,Ars hB hl g2,g3.trans k2⟩
end Go.SX
namespace Go.SX
open Go.RowKit (Below)
def TK (P:Program) (t:TypeId) (c:List AV):AV:=
 match P.underlying t with
 | some (.struct _) | some (.array _ _)=>.ag c
 | _=>c.headD .un
mutual
inductive HasC (P:Program):TypeId→List AV→Prop
 | bool {t b} (h:P.underlying t=some .bool):HasC P t [.sc (.bool b)]
 | int {t k n} (h:P.underlying t=some (.int k)) (hw:(Lit.int k n).wf=true):HasC P t [.sc (.int k n)]
 | str {t s} (h:P.underlying t=some .string) (hs:s.size≤maxLen):HasC P t [.sc (.string s)]
 | slice {t e} (h:P.underlying t=some (.slice e)) (z:Bool) (ess:List (List AV)) (hs:∀ c ∈ ess,HasC P e c):HasC P t [.vw z (ess.map (TK P e))]
 | struct {t fs cs} (h:P.underlying t=some (.struct fs)) (hf:HasFs P (fs.toList.map (·.type)) cs):HasC P t cs
 | array {t n e cs} (h:P.underlying t=some (.array n e)) (hf:HasFs P (List.replicate n e) cs):HasC P t cs
inductive HasFs (P:Program):List TypeId→List AV→Prop
 | nil:HasFs P [] []
 | cons {t ts c cs} (h:HasC P t c) (hs:HasFs P ts cs):HasFs P (t::ts) (c++cs)
end
def HasV (P:Program) (t:TypeId) (a:AV):Prop:=∃ c,HasC P t c∧a=TK P t c
theorem RU {P:Program} {t:TypeId} {c:List AV} (h:HasC P t c):(TK P t c).cells=c:=by
 cases h with
 | bool h=>simp [TK,h,AV.cells]
 | int h hw=>simp [TK,h,AV.cells]
 | str h hs=>simp [TK,h,AV.cells]
 | slice h z ess hs=>simp [TK,h,AV.cells]
 | struct h hf=>simp [TK,h,AV.cells]
 | array h hf=>simp [TK,h,AV.cells]
def ctg (P:Program):List (Nat × TypeId)→Nat→Nat→Bool
 | [],off,tot=>off == tot
 | (o,t)::r,off,tot=>o == off && ctg P r (off+P.cellsOf t) tot
def okT (P:Program):Nat→TypeId→Bool
 | 0,_=>false
 | d+1,t=>match P.underlying t with
  | some .bool | some (.int _) | some .string=>true
  | some (.slice e)=>okT P d e && decide (0 < P.cellsOf e)
  | some (.struct fs)=>fs.toList.all (fun f=>okT P d f.type) && ctg P (fs.toList.map fun f=>(f.offset,f.type)) 0 (P.cellsOf t)
  | some (.array n e)=>okT P d e && ctg P ((List.range n).map fun i=>(i * P.cellsOf e,e)) 0 (P.cellsOf t)
  | _=>false
def Rel (w:World) (cs:List AV) (vs:List Value):Prop:=
 cs.length=vs.length∧∀ (j:Nat) (a:AV) (v:Value),cs[j]?=some a→vs[j]?=some v→(∀ o,VR w Qb o a v)∧v.oneCell'=true
theorem Rel.one {w:World} {a:AV} {v:Value} (h:∀ o,VR w Qb o a v) (h1:v.oneCell'=true):Rel w [a] [v]:=by
 refine ⟨rfl,fun j b u hb hu=>?_⟩
 cases j with
 | zero=>simp at hb hu; subst hb; subst hu; exact ⟨h,h1⟩
 | succ j=>simp at hb
theorem Rel.append {w:World} {cs cs':List AV} {vs vs':List Value} (h:Rel w cs vs) (h':Rel w cs' vs'):Rel w (cs++cs') (vs++vs'):=by
 refine ⟨by simp [h.1,h'.1],fun j b u hb hu=>?_⟩
 rw [lx18] at hb hu
 rw [h.1] at hb
 split at hb
 ·rename_i hi; rw [if_pos hi] at hu; exact h.2 j b u hb hu
 ·rename_i hi; rw [if_neg hi] at hu; exact h'.2 _ b u hb hu
section
variable {H:Type} {enc:TypeId × Value→H} {P:Program} {w:World}
theorem Wb (b off n:Nat):(⟨b,off,none⟩:Addr).add n=⟨b,off+n,none⟩:=by
 unfold Addr.add
 split
 ·rename_i h; subst h; rfl
 ·rfl
theorem Mw {fuel D:Nat} {vcs:List Value} (ih:∀ t cs d ps,okT P D t=true→DataW.trod enc P w 0 (fun _=>true) true fuel t cs=some (d,ps)→∃ c,HasC P t c∧Rel w c cs):
  ∀ (l:List (Nat × TypeId)) (off:Nat) (xs:List (DataW H × List MemPlace)),ctg P l off vcs.length=true→(∀ p ∈ l,okT P D p.2=true)→
   l.mapM (fun p=>DataW.trod enc P w 0 (fun _=>true) true fuel p.2 ((vcs.drop p.1).take (P.cellsOf p.2)))=some xs→∃ cs,HasFs P (l.map (·.2)) cs∧Rel w cs (vcs.drop off)
 | [],off,xs,hc,_,_=>by
  simp only [ctg,lx85] at hc
  refine ⟨[],.nil,?_⟩
  rw [List.drop_eq_nil_of_le (by omega)]
  exact ⟨rfl,fun j a v h=>by simp at h⟩
 | (o,t)::r,off,xs,hc,hk,hm=>by
  simp only [ctg,AH,lx85] at hc
  obtain ⟨rfl,hc⟩:=hc
  rw [List.mapM_cons] at hm
  simp only [Option.bind_eq_bind,Option.bind_eq_some_iff] at hm
  obtain ⟨x,hx,ys,hys,_⟩:=hm
  obtain ⟨c,h1,h2⟩:=ih t _ x.1 x.2 (hk _ lx48) hx
  obtain ⟨cs,h3,h4⟩:=Mw ih r (o+P.cellsOf t) ys hc (fun p hp=>hk p (lx49 _ hp)) hys
  refine ⟨c++cs,.cons h1 h3,?_⟩
  have:vcs.drop o=(vcs.drop o).take (P.cellsOf t)++vcs.drop (o+P.cellsOf t):=by
   rw [←List.drop_drop,lx67]
  rw [this]
  exact h2.append h4
theorem Mx {α β γ:Type} (f:β→Option γ) (g:α→β):∀ l:List α,(l.map g).mapM f=l.mapM (fun x=>f (g x))
 | []=>rfl
 | x::l=>by rw [lx32,List.mapM_cons,List.mapM_cons,Mx f g l]
theorem Abt {fuel D:Nat} {t e:TypeId} {ad:Addr} {len cap:Nat} {xs:List (DataW H × List MemPlace)} (ih:∀ t cs d ps,okT P D t=true→DataW.trod enc P w 0 (fun _=>true) true fuel t cs=some (d,ps)→∃ c,HasC P t c∧Rel w c cs)
  (hu:P.underlying t=some (.slice e)) (hk:okT P D e=true) (hpos:0 < P.cellsOf e) (hl:len≤cap) (hm:cap≤maxLen)
  (hxs:(List.range len).mapM (fun i=>(w.cells? 0 (ad.add (i * P.cellsOf e)) (P.cellsOf e)).bind (DataW.trod enc P w 0 (fun _=>true) true fuel e))=some xs):
  ∃ c,HasC P t c∧Rel w c [.slice (some ad) len cap]:=by
 by_cases h0:len=0
 ·subst h0
  exact ⟨_,.slice hu false [] (by simp),.one (fun o=>.vw0 (fun h=>by cases h) hm) rfl⟩
 have hel:∀ i,i < len→∃ c vs,HasC P e c∧Rel w c vs∧w.cells? 0 (ad.add (i * P.cellsOf e)) (P.cellsOf e)=some vs:=by
  intro i hi
  have:=mapM_some_get hxs i i (by simp [hi])
  have hlen:=mapM_some_length hxs
  simp only [List.length_range] at hlen
  have hx:xs[i]?=some xs[i]:=lx51 (by omega)
  rw [hx] at this
  simp only [Option.bind_eq_some_iff] at this
  obtain ⟨vs,h1,h2⟩:=this
  obtain ⟨c,h3,h4⟩:=ih e vs _ _ hk h2
  exact ⟨c,vs,h3,h4,h1⟩
 obtain ⟨b,off,sp⟩:=ad
 have hsp:sp=none:=by
  obtain ⟨c,vs,_,_,h⟩:=hel 0 (by omega)
  obtain ⟨_,h2,h3⟩:=World.cells?_some h
  have h4:=h3 0 hpos
  have:vs[0]?=some vs[0]:=lx51 (by omega)
  rw [this] at h4
  simpa [Addr.add] using World.cell?_spot h4
 subst hsp
 have hel2:∀ i,∃ c,i < len→HasC P e c∧c.length=P.cellsOf e∧∀ j,j < P.cellsOf e→∃ v,w.cell? ⟨b,off+i * P.cellsOf e+j,none⟩=some v∧v.oneCell'=true∧∀ a,c[j]?=some a→∀ o,VR w Qb o a v:=by
  intro i
  by_cases hi:i < len
  ·obtain ⟨c,vs,h1,h2,h3⟩:=hel i hi
   obtain ⟨_,h4,h5⟩:=World.cells?_some h3
   refine ⟨c,fun _=>⟨h1,h2.1.trans h4,fun j hj=>?_⟩⟩
   have h6:=h5 j hj
   rw [Wb,Wb] at h6
   have hv:vs[j]?=some vs[j]:=lx51 (by omega)
   have hc:c[j]?=some (c[j]'(by rw [h2.1]; omega)):=lx51 _
   rw [hv] at h6
   exact ⟨_,h6,(h2.2 j _ _ hc hv).2,fun a ha=>(h2.2 j _ _ ha hv).1⟩
  ·exact ⟨[],fun h=>absurd h hi⟩
 let g:Nat→List AV:=fun i=>Classical.choose (hel2 i)
 have hg:∀ i,i < len→HasC P e (g i)∧(g i).length=P.cellsOf e∧∀ j,j < P.cellsOf e→∃ v,w.cell? ⟨b,off+i * P.cellsOf e+j,none⟩=some v∧v.oneCell'=true∧∀ a,(g i)[j]?=some a→∀ o,VR w Qb o a v:=
  fun i hi=>lx95 (hel2 i) hi
 let ess:=(List.range len).map g
 have hess:∀ i,i < len→ess[i]?=some (g i):=fun i hi=>by simp [ess,hi]
 have hlen:ess.length=len:=by simp [ess]
 have hmem:∀ c ∈ ess,∃ i,i < len∧c=g i:=fun c hc=>by
  obtain ⟨i,hi,rfl⟩:=lx35.1 hc
  exact ⟨i,by simpa using hi,rfl⟩
 refine ⟨_,.slice hu false ess (fun c hc=>by obtain ⟨i,hi,rfl⟩:=hmem c hc; exact (hg i hi).1),.one (fun o=>?_) rfl⟩
 have hcell:∀ i j,i < len→j < P.cellsOf e→w.cell? ⟨b,off+i * P.cellsOf e+j,none⟩=some ((w.cell? ⟨b,off+i * P.cellsOf e+j,none⟩).getD undef)∧((w.cell? ⟨b,off+i * P.cellsOf e+j,none⟩).getD undef).oneCell'=true:=by
  intro i j hi hj
  obtain ⟨v,h1,h2,_⟩:=(hg i hi).2.2 j hj
  rw [h1]; exact ⟨rfl,h2⟩
 have hget:∀ i x,(ess.map (TK P e))[i]?=some x→i < len∧x=TK P e (g i):=by
  intro i x hx
  have hi:i < len:=by
   have:=(lx22.1 hx).1
   simpa [hlen] using this
  refine ⟨hi,?_⟩
  rw [lx23,hess i hi] at hx
  simpa using hx.symm
 have:=VR.vw1 (w:=w) (X:=Qb) (o:=o) (z:=false) (es:=ess.map (TK P e)) (b:=b) (base:=off) (cap:=cap) (esz:=P.cellsOf e)
  (fun i j=>(w.cell? ⟨b,off+i * P.cellsOf e+j,none⟩).getD undef)
  (by intro h; have:=congrArg List.length h; simp [hlen] at this; omega) (fun h=>h.elim)
  (World.block_lt_of_cell? w ⟨b,off+0 * P.cellsOf e+0,none⟩ (hcell 0 0 (by omega) hpos).1) (by simpa [hlen] using hl) (fun h=>by cases h) hm
  (fun x hx=>by
   obtain ⟨c,hc,rfl⟩:=lx35.1 hx
   obtain ⟨i,hi,rfl⟩:=hmem c hc
   rw [RU (hg i hi).1]; exact (hg i hi).2.1)
  (fun i j hi hj=>hcell i j (by simpa [hlen] using hi) hj)
  (fun i x j a hx ha=>by
   obtain ⟨hi,rfl⟩:=hget i x hx
   rw [RU (hg i hi).1] at ha
   have hj:j < P.cellsOf e:=by
    have:=(lx22.1 ha).1
    rw [(hg i hi).2.1] at this
    exact this
   obtain ⟨v,h1,h2,h3⟩:=(hg i hi).2.2 j hj
   simp only [h1,lx10]
   exact h3 a ha none)
 simpa [hlen] using this
theorem Wc:∀ (fuel D:Nat) (t:TypeId) (vcs:List Value) (d:DataW H) (ps:List MemPlace),okT P D t=true→
  DataW.trod enc P w 0 (fun _=>true) true fuel t vcs=some (d,ps)→∃ c,HasC P t c∧Rel w c vcs
 | 0,D,t,vcs,d,ps,hk,h=>by simp [DataW.trod] at h
 | fuel+1,0,t,vcs,d,ps,hk,h=>by simp [okT] at hk
 | fuel+1,D+1,t,vcs,d,ps,hk,h=>by
  have ih:=Wc fuel D
  unfold DataW.trod at h
  unfold okT at hk
  split at hk
  ·rename_i hu
   rw [hu] at h
   split at h <;> simp_all
   exact ⟨_,.bool hu,.one (fun o=>.sc rfl) rfl⟩
  ·rename_i k hu
   rw [hu] at h
   split at h <;> simp_all
   obtain ⟨⟨rfl,hw⟩,_⟩:=h
   exact ⟨_,.int hu hw,.one (fun o=>.sc rfl) rfl⟩
  ·rename_i hu
   rw [hu] at h
   split at h <;> simp_all
   exact ⟨_,.str hu h.1,.one (fun o=>.sc rfl) rfl⟩
  ·rename_i e hu
   rw [hu] at h
   simp only [AH,AR] at hk
   obtain ⟨hk,hpos⟩:=hk
   split at h
   all_goals first | (rename_i hq; cases hq; done) | skip
   ·simp only [lx16,lx40] at h
    exact ⟨_,.slice hu true [] (by simp),.one (fun o=>.vw0 (fun _=>rfl) (by simp [maxLen])) rfl⟩
   ·rename_i e' ad len cap h1
    cases h1
    simp only at h
    split at h
    rotate_left
    ·cases h
    rename_i hh
    obtain ⟨_,hl,hm⟩:=hh
    simp only [Option.bind_eq_some_iff] at h
    obtain ⟨xs,hxs,_⟩:=h
    exact Abt ih hu hk hpos hl hm hxs
   ·cases h
  ·rename_i fs hu
   rw [hu] at h
   simp only [AH,lx28] at hk
   obtain ⟨hk,hc⟩:=hk
   split at h
   all_goals first | (rename_i hq; cases hq; done) | skip
   ·rename_i fs' h1
    cases h1
    split at h
    rotate_left
    ·cases h
    rename_i hl
    simp only [lx24] at h
    obtain ⟨xs,hxs,_⟩:=h
    have:=Mw (w:=w) ih (fs.toList.map fun f=>(f.offset,f.type)) 0 xs (by rw [hl]; exact hc) (by
     intro p hp
     obtain ⟨f,hf,rfl⟩:=lx35.1 hp
     exact hk f hf) (by rw [Mx]; exact hxs)
    obtain ⟨cs,g1,g2⟩:=this
    rw [List.map_map] at g1
    exact ⟨cs,.struct hu g1,by simpa using g2⟩
   ·exact absurd rfl (‹∀ (gs:Array Field),some (TypeDesc.struct fs)=some (TypeDesc.struct gs)→False› fs)
  ·rename_i n e hu
   rw [hu] at h
   simp only [AH] at hk
   obtain ⟨hk,hc⟩:=hk
   split at h
   all_goals first | (rename_i hq; cases hq; done) | skip
   ·rename_i n' e' h1
    cases h1
    split at h
    rotate_left
    ·cases h
    rename_i hl
    simp only [lx24] at h
    obtain ⟨xs,hxs,_⟩:=h
    have:=Mw (w:=w) ih ((List.range n).map fun i=>(i * P.cellsOf e,e)) 0 xs (by rw [hl]; exact hc) (by
     intro p hp
     obtain ⟨f,hf,rfl⟩:=lx35.1 hp
     exact hk) (by rw [Mx]; exact hxs)
    obtain ⟨cs,g1,g2⟩:=this
    have e1:List.map (fun x:Nat × TypeId=>x.2) (List.map (fun i=>(i * P.cellsOf e,e)) (List.range n))=List.replicate n e:=by
     rw [List.map_map]
     exact List.eq_replicate_iff.2 ⟨by simp,by simp⟩
    rw [e1] at g1
    exact ⟨cs,.array hu g1,by simpa using g2⟩
   ·exact absurd rfl (‹∀ (m:Nat) (u:TypeId),some (TypeDesc.array n e)=some (TypeDesc.array m u)→False› n e)
  ·cases hk
end
end Go.SX
namespace Go.SX
open Go.RowKit (Below)
open Go.ChangeShapes Go.WideShapes Go.ChangeAt Go.RowKit
open Go.ChangeMaps (open_string shut_string)
section
variable {H:Type} {enc:TypeId × Value→H} {P:Program} {w:World} {base D:Nat} {t:TypeId} {v:Value} {d:DataW H} {p:List MemPlace}
theorem N1 {c:List AV} (h:Rel w c [v]) (o:Option HC):VR w Qb o (c.headD .un) v:=by
 obtain ⟨h1,h2⟩:=h
 match c,h1 with
 | [a],_=>exact (h2 0 a v rfl rfl).1 o
theorem Art {c:List AV} {cs:Array Value} (h:Rel w c cs.toList) (o:Option HC):VR w Qb o (.ag c) (.agg cs):=by
 have:=VR.ag (w:=w) (X:=Qb) (o:=o) (cs:=c) (vs:=cs.toList) h.1 (fun i a v ha hv=>(h.2 i a v ha hv).1 o) (fun v hv=>by
  obtain ⟨i,hi⟩:=lx44.1 hv
  have hi':i < c.length:=by rw [h.1]; exact (lx22.1 hi).1
  exact (h.2 i _ v (lx51 hi') hi).2)
 simpa using this
theorem Xx (hk:okT P D t=true) (hok:Value.okWide P w .any base t v) (h:DataW.Trod enc P w 0 (fun _=>true) true t v d p):∃ a,HasV P t a∧∀ o,VR w Qb o a v:=by
 have h0:=h
 obtain ⟨fuel,hf⟩:=h
 obtain ⟨c,h1,h2⟩:=Wc fuel D t _ d p hk hf
 refine ⟨TK P t c,⟨c,h1,rfl⟩,fun o=>?_⟩
 cases D with
 | zero=>simp [okT] at hk
 | succ D=>
  unfold okT at hk
  split at hk
  ·rename_i hu
   obtain ⟨a,rfl,rfl,rfl⟩:=open_bool hu hok h0
   simp only [TK,hu]
   exact N1 h2 o
  ·rename_i k hu
   obtain ⟨a,rfl,rfl,rfl,_⟩:=open_int hu hok h0
   simp only [TK,hu]
   exact N1 h2 o
  ·rename_i hu
   obtain ⟨a,rfl,rfl,rfl,_⟩:=open_string hu hok h0
   simp only [TK,hu]
   exact N1 h2 o
  ·rename_i e hu
   obtain ⟨a,len,cap,rfl⟩:=okWide_slice hu hok
   simp only [TK,hu]
   exact N1 h2 o
  ·rename_i fs hu
   exact Aoh
  ·rename_i n e hu
   exact Aoh
  ·cases hk
end
section
variable {P:Program} {t:TypeId} {c:List AV}
theorem HasC.inv_int {k:IntKind} (hu:P.underlying t=some (.int k)) (h:HasC P t c):∃ n,c=[.sc (.int k n)]∧(Lit.int k n).wf=true:=by
 cases h with
 | int h hw=>rw [hu] at h; cases h; exact ⟨_,rfl,hw⟩
 | bool h=>rw [hu] at h; cases h
 | str h hs=>rw [hu] at h; cases h
 | slice h z ess hs=>rw [hu] at h; cases h
 | struct h hf=>rw [hu] at h; cases h
 | array h hf=>rw [hu] at h; cases h
theorem HasC.inv_slice {e:TypeId} (hu:P.underlying t=some (.slice e)) (h:HasC P t c):∃ z es,c=[.vw z es]∧∀ a ∈ es,HasV P e a:=by
 cases h with
 | slice h z ess hs=>
  rw [hu] at h; cases h
  refine ⟨z,_,rfl,fun a ha=>?_⟩
  obtain ⟨c,hc,rfl⟩:=lx35.1 ha
  exact ⟨c,hs c hc,rfl⟩
 | bool h=>rw [hu] at h; cases h
 | int h hw=>rw [hu] at h; cases h
 | str h hs=>rw [hu] at h; cases h
 | struct h hf=>rw [hu] at h; cases h
 | array h hf=>rw [hu] at h; cases h
theorem HasV.list {α:Type} {f:α→AV} {e:TypeId} (hf:∀ a,HasV P e a→∃ x,a=f x):∀ {es:List AV},(∀ a ∈ es,HasV P e a)→∃ l:List α,es=l.map f
 | [],_=>⟨[],rfl⟩
 | a::es,h=>by
  obtain ⟨x,rfl⟩:=hf a (h a lx48)
  obtain ⟨l,rfl⟩:=HasV.list hf (es:=es) (fun b hb=>h b (lx49 _ hb))
  exact ⟨x::l,rfl⟩
end
theorem Xy {P:Program} {g:Nat} {F:List AV→Option AV} (hg:Eb P g F) {args:List AV} (hF:F args=some (.sc (.bool true))) {w:World} {cargs:Array Value} (hv:VL w Qb (some BW) args cargs.toList):
  Calls P g cargs w fun e w'=>e=.returned (.bool true)∧Below w.heap.size w w':=by
 obtain ⟨_,c,h1,h2⟩:=hg args _ hF
 have:=h1 w Qb none
 cases this
 exact h2 w cargs hv
end Go.SX
namespace Go.SX
structure ES where
 T:Tr AV
 n:Nat
 H:Tr Blk
 hn:Nat
 cnt:Nat
def ES.toS (σ:ES):St:=⟨σ.T.toL .un σ.n,σ.H.toL dead σ.hn,σ.cnt⟩
def ES.Inv (σ:ES):Prop:=Tr.Fit σ.H σ.hn
noncomputable def N2 (σ:ES):Operand→AV
 | .tmp t=>match Nat.blt t σ.n with
  | true=>Tr.getP .un (pth t) σ.T
  | false=>.un
 | .const v=>KY v
 | .global _=>.jk
 | .func f=>.fn f []
noncomputable def gE (σ:ES) (id:Nat):Option Blk:=
 match Nat.blt id σ.hn with
 | true=>some (Tr.getN dead σ.H id)
 | false=>none
def frc:AV→Option AV
 | .sc v=>match v with
  | .int k n=>match n with
   | .ofNat m=>match m with
    | 0=>some (.sc (.int k (.ofNat 0)))
    | m+1=>some (.sc (.int k (.ofNat (m+1))))
   | .negSucc m=>match m with
    | 0=>some (.sc (.int k (.negSucc 0)))
    | m+1=>some (.sc (.int k (.negSucc (m+1))))
  | .bool b=>match b with
   | true=>some (.sc (.bool true))
   | false=>some (.sc (.bool false))
  | v=>some (.sc v)
 | a=>some a
theorem Aru {a b:AV} (h:frc a=some b):b=a:=by
 unfold frc at h
 repeat' split at h
 all_goals (cases h; rfl)
noncomputable def LL (σ:ES) (d:Option Nat) (v:AV):Option ES:=
 match d with
 | none=>some σ
 | some d=>match frc v with
  | some v=>match Tr.setP v (pth d) σ.T with
   | some T'=>some ⟨T',σ.n,σ.H,σ.hn,σ.cnt⟩
   | none=>none
  | none=>none
theorem blt_eq (a b:Nat):Nat.blt a b=decide (a < b):=by
 cases h:Nat.blt a b with
 | true=>rw [Nat.blt_eq] at h; simp [h]
 | false=>
  symm
  rw [BJ]
  intro h'
  rw [←Nat.blt_eq] at h'
  rw [h'] at h; cases h
theorem Dj (σ:ES):N2 σ=ev σ.toS.T:=by
 funext x
 cases x with
 | tmp t=>
  simp only [N2,ev,Tr.getP_eq,ES.toS,lx80,Tr.toL_get,blt_eq]
  by_cases h:t < σ.n
  ·simp [h]
  ·simp [h]
 | _=>rfl
theorem Z0 (σ:ES):gE σ=fun i=>σ.toS.H[i]?:=by
 funext i
 simp only [gE,Tr.getN_eq,ES.toS,Tr.toL_get,blt_eq]
 by_cases h:i < σ.hn
 ·simp [h]
 ·simp [h]
theorem PD (σ:ES):IS (gE σ)=AE σ.toS.H:=by
 funext id ver
 rw [Z0,HW]
theorem Agu (σ:ES):σ.toS.H.length=σ.hn:=Tr.toL_len _ _ _
theorem Ff {σ σ':ES} {d:Option Nat} {v:AV} (hi:σ.Inv) (h:LL σ d v=some σ'):σ'.Inv∧σ.toS.put d v=σ'.toS∧σ'.n=σ.n∧σ'.H=σ.H∧σ'.hn=σ.hn:=by
 unfold LL at h
 split at h
 ·cases h; exact ⟨hi,rfl,rfl,rfl,rfl⟩
 ·split at h
  ·rename_i d v' hv
   have hv:=Aru hv
   subst hv
   split at h
   ·rename_i T' hT
    rw [Tr.setP_eq] at hT
    cases h
    refine ⟨hi,?_,rfl,rfl,rfl⟩
    simp only [St.put,ES.toS,Tr.toL_set hT]
   ·cases h
  ·cases h
structure EE where
 isP:Nat→Bool
 isV:Nat→Bool
 pc:Nat→List AV→Option AV
 vc:Nat→List AV→Option AV
 hc:Nat→List AV→Tr Blk→Nat→Nat→Option (AV × Tr Blk × Nat × Nat)
 lit:Bool
 perm:Nat→Option (List Nat)
 hcl:Nat→Bool
def EE.hb (E:EE) (g:Nat):Bool:=E.hcl g && !E.isP g
def hcL (hc:Nat→List AV→Tr Blk→Nat→Nat→Option (AV × Tr Blk × Nat × Nat)) (f:Nat) (args:List AV) (H:List Blk) (cnt:Nat):Option (AV × List Blk × Nat):=
 match hc f args (Tr.ofL dead H) H.length cnt with
 | some (r,H',n',c')=>some (r,H'.toL dead n',c')
 | none=>none
def EE.vb (E:EE) (g:Nat):Bool:=E.isV g && !E.isP g
def EE.hcall (E:EE) (g:Nat) (args:List AV) (H:List Blk) (cnt:Nat):Option (AV × List Blk × Nat):=
 match E.isV g with
 | true=>hcV H cnt (norefs args) (E.vc g args)
 | false=>hcL E.hc g args H cnt
def EE.env (E:EE):Env:=⟨E.isP,E.pc,E.hcall,E.lit,E.perm,E.hcl⟩
theorem Ap9 (E:EE):Arn E.env E.vb:=by
 intro g hg
 simp only [EE.vb,AH] at hg
 refine ⟨by simpa [EE.env] using hg.2,fun args=>match norefs args with | true=>E.vc g args | false=>none,fun args H cnt=>?_⟩
 show EE.hcall E g args H cnt=_
 unfold EE.hcall
 rw [hg.1]
 simp only
 cases norefs args with
 | true=>cases E.vc g args <;> rfl
 | false=>cases E.vc g args <;> rfl
def EE.Ok (E:EE):Prop:=∀ f args H n c r H' n' c',Tr.Fit H n→E.hc f args H n c=some (r,H',n',c')→Tr.Fit H' n'
def JV (φ:Operand→AV) (o:Op):Option (Nat × List AV):=
 match o with
 | .call { callee:=.value f,args,.. }=>match φ f with
  | .fn g caps=>some (g,args.toList.map φ++caps)
  | _=>none
 | _=>none
theorem KM (s:St) (o:Op):JV (ev s.T) o=E9 s o:=rfl
def Xz (p:Bool) (H:Tr Blk) (n:Nat):Option (Tr Blk):=
 match p with
 | false=>some H
 | true=>match n with
  | 0=>none
  | k+1=>H.pop k
noncomputable def Wd (P:Program) (σ:ES) (o:Op) (dst:Option Nat):Option ES:=
 match G7 P (N2 σ) (gE σ) σ.hn σ.cnt o with
 | some (v,p,a,c)=>match Xz p σ.H σ.hn with
  | some H1=>match a with
   | .push b=>match H1.push (LI p σ.hn) b with
    | some H2=>LL ⟨σ.T,σ.n,H2,LI p σ.hn+1,c⟩ dst v
    | none=>none
   | .put id b=>match Tr.setN b H1 id with
    | some H2=>LL ⟨σ.T,σ.n,H2,LI p σ.hn,c⟩ dst v
    | none=>none
  | none=>none
 | none=>none
noncomputable def Agv (P:Program) (σ:ES) (o:Op) (dst:Option Nat):Option ES:=
 match G7 P (N2 σ) (gE σ) σ.hn σ.cnt o with
 | some (v,false,.push b,c)=>match norefs b.els with
  | true=>LL ⟨σ.T,σ.n,σ.H,σ.hn,σ.cnt+1⟩ dst (.vw false b.els)
  | false=>none
 | _=>none
noncomputable def Z1 (E:EE) (σ:ES) (g:Nat) (args:List AV) (dst:Option Nat):Option ES:=
 match E.isP g with
 | true=>match E.pc g (Kt (gE σ) args) with
  | some r=>LL σ dst r
  | none=>none
 | false=>match E.isV g with
  | true=>match norefs args with
   | true=>match E.vc g args with
    | some r=>LL σ dst r
    | none=>none
   | false=>none
  | false=>match E.hc g args σ.H σ.hn σ.cnt with
   | some (r,H',n',c')=>LL ⟨σ.T,σ.n,H',n',c'⟩ dst r
   | none=>none
noncomputable def Nq (P:Program) (E:EE) (σ:ES) (o:Oper) (lt:Bool):Option ES:=
 match B9 o.op with
 | true=>match JV (N2 σ) o.op with
  | some (g,args)=>Z1 E σ g args o.dst
  | none=>none
 | false=>match isHeapOp o.op with
  | true=>match lt && Cu o.op with
   | true=>Agv P σ o.op o.dst
   | false=>Wd P σ o.op o.dst
  | false=>match ZP P (N2 σ) (IS (gE σ)) o.op with
   | some v=>LL σ o.dst v
   | none=>none
noncomputable def gvE (all:Array Oper) (σ:ES) (j:Nat):AV:=
 match (all[j]?).bind (·.dst) with
 | some d=>N2 σ (.tmp d)
 | none=>.un
noncomputable def opE (P:Program) (E:EE) (all:Array Oper) (σ:ES) (o:Oper) (lt:Bool):Option ES:=
 match o.guard with
 | none=>Nq P E σ o lt
 | some (j,want)=>match gvE all σ j with
  | .sc (.bool b)=>match b == want with
   | true=>Nq P E σ o false
   | false=>LL σ o.dst .un
  | .un=>LL σ o.dst .un
  | _=>none
theorem Al8 {p:Bool} {H H1:Tr Blk} {n:Nat} (hf:Tr.Fit H n) (h:Xz p H n=some H1):Tr.Fit H1 (LI p n)∧H1.toL dead (LI p n)=V4 p (H.toL dead n):=by
 cases p with
 | false=>simp only [Xz,lx16] at h; subst h; exact ⟨hf,rfl⟩
 | true=>
  cases n with
  | zero=>simp [Xz] at h
  | succ k=>
   simp only [Xz] at h
   refine ⟨(Tr.pop_ok dead hf h).2,?_⟩
   show H1.toL dead k=(H.toL dead (k+1)).dropLast
   rw [Tr.toL_pop hf h,List.dropLast_eq_take,Tr.toL_len]
   rfl
theorem Agw {P:Program} {σ σ':ES} {o:Op} {dst:Option Nat} (hi:σ.Inv) (h:Wd P σ o dst=some σ'):σ'.Inv∧Au P σ.toS o dst=some σ'.toS∧σ'.n=σ.n:=by
 unfold Wd at h
 split at h
 ·rename_i v p a c hr
  rw [Dj,Z0,←Agu] at hr
  have hs:=ZQ P σ.toS o dst hr
  split at h
  ·rename_i H1 h1
   obtain ⟨f1,f2⟩:=Al8 hi h1
   split at h
   ·rename_i b
    split at h
    ·rename_i H2 h2
     obtain ⟨q1,q2,q3,_⟩:=Ff (σ:=⟨σ.T,σ.n,H2,LI p σ.hn+1,c⟩) (Tr.push_ok dead b f1 h2).2 h
     refine ⟨q1,?_,q3⟩
     rw [hs,←q2]
     simp only [Abs,Abr]
     congr 2
     show _=(ES.toS _)
     simp only [ES.toS,Tr.toL_push f1 h2,f2]
    ·cases h
   ·rename_i id b
    split at h
    ·rename_i H2 h2
     rw [Tr.setN_eq] at h2
     obtain ⟨q1,q2,q3,_⟩:=Ff (σ:=⟨σ.T,σ.n,H2,LI p σ.hn,c⟩) ((Tr.set_ok dead b h2).2 _ f1) h
     refine ⟨q1,?_,q3⟩
     rw [hs,←q2]
     simp only [Abs,Abr]
     congr 2
     show _=(ES.toS _)
     simp only [ES.toS,Tr.toL_set h2,f2]
    ·cases h
  ·cases h
 ·cases h
theorem Al9 {P:Program} {σ σ':ES} {o:Op} {dst:Option Nat} (hi:σ.Inv) (h:Agv P σ o dst=some σ'):σ'.Inv∧Ei P σ.toS o dst=some σ'.toS∧σ'.n=σ.n:=by
 unfold Agv at h
 split at h
 ·rename_i v b c hr
  rw [Dj,Z0,←Agu] at hr
  have hs:=ZQ P σ.toS o dst hr
  split at h
  ·rename_i hnr
   obtain ⟨q1,q2,q3,_⟩:=Ff (σ:=⟨σ.T,σ.n,σ.H,σ.hn,σ.cnt+1⟩) hi h
   refine ⟨q1,?_,q3⟩
   unfold Ei
   rw [hs]
   have e:(St.put ⟨σ.toS.T,Abr σ.toS.H false (.push b),c⟩ dst v).H=σ.toS.H++[b]:=by cases dst <;> rfl
   simp only [Abs,Ab1,e,Dg,hnr,lx6]
   rw [←q2]
   rfl
  ·cases h
 ·cases h
def Ku (P:Program) (E:Env) (s:St) (o:Oper) (lt:Bool):Option St:=
 if (lt && Cu o.op)=true then Ei P s o.op o.dst else if AP E s o.op=true then (I0 P E s o.op).map (s.put o.dst) else Fu P E s o
theorem PE {o:Op} (h:Cu o=true):isHeapOp o=true∧B9 o=false:=by
 cases o <;> simp_all [Cu,isHeapOp,B9]
theorem Agx {o:Op} (h:B9 o=true):Cu o=false:=by
 cases hq:Cu o with
 | false=>rfl
 | true=>rw [(PE hq).2] at h; cases h
theorem PF {P:Program} {E:EE} (hE:E.Ok) {σ σ':ES} {o:Oper} {lt:Bool} (hi:σ.Inv) (h:Nq P E σ o lt=some σ'):σ'.Inv∧Ku P E.env σ.toS o lt=some σ'.toS∧σ'.n=σ.n:=by
 unfold Nq at h
 unfold Ku
 split at h
 ·rename_i hcall
  rw [Agx hcall,MS,if_neg (by decide)]
  split at h
  ·rename_i g args ht
   rw [Dj,KM] at ht
   unfold Z1 at h
   split at h
   ·rename_i hp
    have hpure:AP E.env σ.toS o.op=true:=by
     unfold AP
     rw [hcall,if_pos rfl,ht]
     exact hp
    rw [if_pos hpure]
    split at h
    ·rename_i r hr
     obtain ⟨q1,q2,q3,_⟩:=Ff hi h
     refine ⟨q1,?_,q3⟩
     unfold I0
     rw [hcall,if_pos rfl,ht]
     simp only
     rw [Z0,HX] at hr
     rw [←Gg]
     show Option.map _ (E.pc g (Al σ.toS.H args))=_
     rw [hr,lx34,q2]
    ·cases h
   ·rename_i hp
    have hpure:¬ AP E.env σ.toS o.op=true:=by
     unfold AP
     rw [hcall,if_pos rfl,ht]
     show ¬ E.isP g=true
     rw [hp]; decide
    rw [if_neg hpure]
    split at h
    ·rename_i hv
     split at h
     ·rename_i hnr
      split at h
      ·rename_i r hr
       obtain ⟨q1,q2,q3,_⟩:=Ff hi h
       refine ⟨q1,?_,q3⟩
       unfold Fu
       rw [hcall,if_pos rfl,ht]
       simp only
       have e:E.env.hcall g args σ.toS.H σ.toS.cnt=some (r,σ.toS.H,σ.toS.cnt):=by
        show EE.hcall E g args σ.toS.H σ.toS.cnt=_
        unfold EE.hcall
        rw [hv,hnr,hr]
        rfl
       rw [e]
       simp only
       rw [←q2]
      ·cases h
     ·cases h
    ·rename_i hv
     split at h
     ·rename_i r H' n' c' hr
      have hf':Tr.Fit H' n':=hE _ _ _ _ _ _ _ _ _ hi hr
      obtain ⟨q1,q2,q3,_⟩:=Ff (σ:=⟨σ.T,σ.n,H',n',c'⟩) hf' h
      refine ⟨q1,?_,q3⟩
      unfold Fu
      rw [hcall,if_pos rfl,ht]
      simp only
      have e:E.env.hcall g args σ.toS.H σ.toS.cnt=some (r,H'.toL dead n',c'):=by
       show EE.hcall E g args σ.toS.H σ.toS.cnt=_
       unfold EE.hcall
       rw [hv]
       simp only
       unfold hcL
       rw [Agu]
       show (match E.hc g args (Tr.ofL dead (σ.H.toL dead σ.hn)) σ.hn σ.cnt with | some (r,H',n',c')=>some (r,H'.toL dead n',c') | none=>none)=_
       rw [Tr.ofL_toL dead hi,hr]
      rw [e]
      simp only
      rw [←q2]
      rfl
     ·cases h
  ·cases h
 ·rename_i hcall
  split at h
  ·rename_i hheap
   have hpure:¬ AP E.env σ.toS o.op=true:=by
    unfold AP
    rw [hcall,if_neg (by decide),hheap]; decide
   split at h
   ·rename_i hl
    rw [if_pos hl]
    exact Al9 hi h
   ·rename_i hl
    rw [if_neg (by rw [hl]; decide),if_neg hpure]
    obtain ⟨q1,q2,q3⟩:=Agw hi h
    refine ⟨q1,?_,q3⟩
    unfold Fu
    rw [hcall,if_neg (by decide)]
    exact q2
  ·rename_i hheap
   have hl:(lt && Cu o.op)=false:=by
    cases hq:Cu o.op with
    | false=>rw [MS]
    | true=>rw [(PE hq).1] at hheap; cases hheap
   have hpure:AP E.env σ.toS o.op=true:=by
    unfold AP
    rw [hcall,if_neg (by decide),hheap]; rfl
   rw [if_neg (by rw [hl]; decide),if_pos hpure]
   split at h
   ·rename_i v hv
    rw [Dj,PD] at hv
    have hv:=PC hv
    obtain ⟨q1,q2,q3,_⟩:=Ff hi h
    refine ⟨q1,?_,q3⟩
    unfold I0
    rw [hcall,if_neg (by decide),hv,lx34,q2]
   ·cases h
theorem Agy (all:Array Oper) (σ:ES) (j:Nat):gvE all σ j=Ao all σ.toS j:=by
 unfold gvE Ao
 rw [Dj]
 rfl
theorem Agz {P:Program} {E:EE} (hE:E.Ok) {all:Array Oper} {σ σ':ES} {o:Oper} {lt:Bool} (hi:σ.Inv) (h:opE P E all σ o lt=some σ'):
  σ'.Inv∧Fq lt o (Ad P E.env all σ.toS o) (Ei P σ.toS o.op o.dst)=some σ'.toS∧σ'.n=σ.n:=by
 unfold opE at h
 unfold Fq
 split at h
 ·rename_i hg
  obtain ⟨q1,q2,q3⟩:=PF hE hi h
  refine ⟨q1,?_,q3⟩
  rw [←q2]
  unfold Ku Ad
  simp only [hg,Option.isNone_none,Ol]
 ·rename_i j want hg
  have hn:(lt && Cu o.op && o.guard.isNone)=false:=by rw [hg]; simp
  rw [hn,if_neg (by decide)]
  rw [Agy] at h
  unfold Ad
  simp only [hg]
  split at h
  ·rename_i b hb
   rw [hb]
   simp only
   split at h
   ·rename_i hbw
    have hbw:b=want:=eq_of_beq hbw
    obtain ⟨q1,q2,q3⟩:=PF hE hi h
    refine ⟨q1,?_,q3⟩
    rw [←q2]
    unfold Ku
    simp only [W1,if_pos hbw]
    rfl
   ·rename_i hbw
    have hbw:¬ b=want:=fun e=>by rw [e] at hbw; simp at hbw
    obtain ⟨q1,q2,q3,_⟩:=Ff hi h
    refine ⟨q1,?_,q3⟩
    simp only [if_neg hbw,lx34,q2]
    split <;> rfl
  ·rename_i hb
   rw [hb]
   obtain ⟨q1,q2,q3,_⟩:=Ff hi h
   exact ⟨q1,by simp only [q2],q3⟩
  ·cases h
end Go.SX
