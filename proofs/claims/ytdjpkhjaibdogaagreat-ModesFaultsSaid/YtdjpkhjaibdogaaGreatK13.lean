/-
  Lemmas towards ModesFaults (joined texts: SXH, SXJ, SXM).
  Conditions: none.
-/
import Derived.Test.YtdjpkhjaibdogaaGreatK01
import Derived.Test.YtdjpkhjaibdogaaGreatK12
set_option linter.unusedSimpArgs false
set_option linter.unusedVariables false
set_option maxRecDepth 100000
namespace Go.SX
section
variable {P:Program} {s:St} {H:List Blk} {d:Option Nat}
theorem Zs {α:Type} [Inhabited α] {f:α→AV} {l:List α} {n:Nat} (h:n < l.length):(l.map f)[n]?=some (f (l.getD n default)):=by
 rw [lx23,lx51 h,lx34,lx80,lx51 h,lx10]
theorem map_set {α:Type} (f:α→AV) (l:List α) (n:Nat) (x:α):(l.map f).set n (f x)=(l.set n x).map f:=by
 rw [List.map_set]
theorem Zt (v:Value):AV.stor (.sc v)=true:=rfl
theorem Zu (cs:List AV):AV.stor (.ag cs)=true:=rfl
theorem Zv (z:Bool) (es:List AV):AV.stor (.vw z es)=true:=rfl
theorem Zw (a b c d:Nat):AV.stor (.sl a b c d)=true:=rfl
def stS (s:St) (d:Option Nat) (id i:Nat) (B:Blk):Option AV→Option St
 | some e'=>some (St.put { s with H:=s.H.set id { B with els:=B.els.set i e' } } d .un)
 | none=>none
def stE (s:St) (d:Option Nat) (v:AV) (id i off sz:Nat) (B:Blk):Option AV→Option St
 | some e=>if (v.stor && (v.cells.length == sz) && decide (0 < sz))=true then stS s d id i B (e.setC off v.cells) else none
 | none=>none
def stB (s:St) (d:Option Nat) (v:AV) (id i off sz:Nat):Option Blk→Option St
 | some B=>stE s d v id i off sz B B.els[i]?
 | none=>none
def stA (s:St) (d:Option Nat) (v:AV) (dd:TyD):AV→Option St
 | .pt id ver i off=>stB s d v id i off dd.sz (AE s.H id ver)
 | _=>none
def stD (s:St) (d:Option Nat) (v a:AV):Option TyD→Option St
 | some dd=>stA s d v dd a
 | none=>none
theorem Nj (t:TypeId) (a x:Operand):Au P s (.store t a x) d=stD s d (ev s.T x) (ev s.T a) (AY P t):=by
 simp only [Au,stD]
 cases AY P t with
 | none=>rfl
 | some dd=>
  simp only
  generalize ev s.T a=q
  cases q <;> try rfl
  rename_i id ver i off
  simp only [stA,stB]
  generalize AE s.H id ver=B
  cases B with
  | none=>rfl
  | some B=>
   simp only [stE]
   generalize B.els[i]?=e
   cases e with
   | none=>rfl
   | some e=>
    simp only [stS]
    by_cases h:(ev s.T x).stor=true∧(ev s.T x).cells.length=dd.sz∧0 < dd.sz
    ·rw [if_pos h,if_pos (by simp [h.1,h.2.1,h.2.2])]
     cases AV.setC e _ (ev s.T x).cells <;> rfl
    ·rw [if_neg h,if_neg]
     intro h'
     simp only [AH,lx85,AR] at h'
     exact h ⟨h'.1.1,h'.1.2,h'.2⟩
theorem Vk (v a:AV) (dd:TyD):stD s d v a (some dd)=stA s d v dd a:=rfl
theorem Afp (v:AV) (dd:TyD) (id ver i off:Nat):stA s d v dd (.pt id ver i off)=stB s d v id i off dd.sz (AE s.H id ver):=rfl
theorem Vl (v:AV) (id i off sz:Nat) (B:Blk):stB s d v id i off sz (some B)=stE s d v id i off sz B B.els[i]?:=rfl
theorem Vm (v:AV) (id i off sz:Nat) (B:Blk) (e:AV) (h:(v.stor && (v.cells.length == sz) && decide (0 < sz))=true):stE s d v id i off sz B (some e)=stS s d id i B (e.setC off v.cells):=by
 simp [stE,h]
theorem Vo (T:List AV) (H:List Blk) (c id i:Nat) (B:Blk) (e:AV):stS ⟨T,H,c⟩ d id i B (some e)=some (St.put ⟨T,H.set id { B with els:=B.els.set i e },c⟩ d .un):=rfl
def mkS (s:St) (d:Option Nat) (el:Nat) (de:TyD) (z:AV):AV→AV→Option St
 | .sc (.int _ n),.sc (.int _ m)=>if (z.stor && (z.cells.length == de.sz) && decide (0 < de.sz) && decide (0 < de.bytes) && decide (0≤n) && decide (n≤m) && decide (m * de.bytes≤140737488355328))=true then
   some (St.put { s with H:=s.H++[⟨true,s.cnt,el,de.sz,List.replicate n.toNat z,false⟩],cnt:=s.cnt+1 } d (.sl s.H.length s.cnt 0 n.toNat)) else none
 | _,_=>none
def mkZ (s:St) (d:Option Nat) (el:Nat) (de:TyD) (l c:AV):Option Value→Option St
 | some z=>mkS s d el de (Az z) l c
 | none=>none
def mkE (s:St) (d:Option Nat) (el:Nat) (l c:AV):Option TyD→Option St
 | some de=>mkZ s d el de l c de.zero
 | none=>none
def mkD (P:Program) (s:St) (d:Option Nat) (l c:AV):Option TyD→Option St
 | some dd=>match dd.el,dd.len with
  | some el,none=>mkE s d el l c (AY P el)
  | _,_=>none
 | none=>none
theorem IP (t:TypeId) (l c:Operand):Au P s (.makeSlice t l c) d=mkD P s d (ev s.T l) (ev s.T c) (AY P t):=by
 simp only [Au,mkD]
 cases AY P t with
 | none=>rfl
 | some dd=>
  simp only
  cases dd.el with
  | none=>rfl
  | some el=>
   cases dd.len with
   | some _=>rfl
   | none=>
    simp only [mkE]
    cases AY P el with
    | none=>rfl
    | some de=>
     simp only [mkZ]
     cases hz:de.zero with
     | none=>rfl
     | some z=>
      simp only [mkS]
      generalize ev s.T l=u
      generalize ev s.T c=v
      cases u <;> try rfl
      rename_i u
      cases u <;> try rfl
      cases v <;> try rfl
      rename_i v
      cases v <;> try rfl
      rename_i k n k' m
      simp only
      by_cases h:(Az z).stor=true∧(Az z).cells.length=de.sz∧0 < de.sz∧0 < de.bytes∧0≤n∧n≤m∧m * de.bytes≤140737488355328
      ·rw [if_pos h,if_pos (by simp [h.1,h.2.1,h.2.2.1,h.2.2.2.1,h.2.2.2.2.1,h.2.2.2.2.2.1,h.2.2.2.2.2.2])]
      ·rw [if_neg h,if_neg]
       intro h'
       simp only [AH,lx85,AR] at h'
       exact h ⟨h'.1.1.1.1.1.1,h'.1.1.1.1.1.2,h'.1.1.1.1.2,h'.1.1.1.2,h'.1.1.2,h'.1.2,h'.2⟩
theorem Afq (l c:AV) (ag sz by' z el fl):mkD P s d l c (some ⟨ag,sz,by',z,some el,none,fl⟩)=mkE s d el l c (AY P el):=rfl
theorem Vp (el:Nat) (l c:AV) (de:TyD):mkE s d el l c (some de)=mkZ s d el de l c de.zero:=rfl
theorem Vq (el:Nat) (de:TyD) (l c:AV) (z:Value):mkZ s d el de l c (some z)=mkS s d el de (Az z) l c:=rfl
theorem Afr (T:List AV) (H:List Blk) (cn el:Nat) (de:TyD) (z:AV) (k k':IntKind) (n m:Int)
  (h:(z.stor && (z.cells.length == de.sz) && decide (0 < de.sz) && decide (0 < de.bytes) && decide (0≤n) && decide (n≤m) && decide (m * de.bytes≤140737488355328))=true):
  mkS ⟨T,H,cn⟩ d el de z (.sc (.int k n)) (.sc (.int k' m))=some (St.put ⟨T,H++[⟨true,cn,el,de.sz,List.replicate n.toNat z,false⟩],cn+1⟩ d (.sl H.length cn 0 n.toNat)):=by
 simp only [mkS,h,lx6]
def blF (s:St) (d:Option Nat) (el len:Nat) (de:TyD) (z:AV):Option (List AV)→Option St
 | some es=>if (z.stor && (z.cells.length == de.sz) && decide (0 < de.sz) && decide (len * de.sz≤16777216))=true then
   some (St.put { s with H:=s.H++[⟨true,s.cnt,el,de.sz,es,true⟩],cnt:=s.cnt+1 } d (.sl s.H.length s.cnt 0 len)) else none
 | none=>none
def blZ (s:St) (d:Option Nat) (el len:Nat) (de:TyD) (l:List (Nat × AV)):Option Value→Option St
 | some z=>blF s d el len de (Az z) (G0 de.sz (List.replicate len (Az z)) l)
 | none=>none
def blE (s:St) (d:Option Nat) (el len:Nat) (l:List (Nat × AV)):Option TyD→Option St
 | some de=>blZ s d el len de l de.zero
 | none=>none
def blD (P:Program) (s:St) (d:Option Nat) (len:Nat) (l:List (Nat × AV)):Option TyD→Option St
 | some dd=>match dd.el,dd.len with
  | some el,none=>blE s d el len l (AY P el)
  | _,_=>none
 | none=>none
theorem HP (t:TypeId) (len:Nat) (ps:Array (Nat × Operand)):Au P s (.buildSlice t len ps) d=blD P s d len (ps.toList.map fun p=>(p.1,ev s.T p.2)) (AY P t):=by
 simp only [Au,blD]
 cases AY P t with
 | none=>rfl
 | some dd=>
  simp only
  cases dd.el with
  | none=>rfl
  | some el=>
   cases dd.len with
   | some _=>rfl
   | none=>
    simp only [blE]
    cases AY P el with
    | none=>rfl
    | some de=>
     simp only [blZ]
     cases hz:de.zero with
     | none=>rfl
     | some z=>
      simp only
      generalize G0 de.sz (List.replicate len (Az z)) _=q
      cases q with
      | none=>rfl
      | some es=>
       simp only [blF]
       by_cases h:(Az z).stor=true∧(Az z).cells.length=de.sz∧0 < de.sz∧len * de.sz≤16777216
       ·rw [if_pos h,if_pos (by simp [h.1,h.2.1,h.2.2.1,h.2.2.2])]
       ·exact Aqr
theorem Afs (len:Nat) (l:List (Nat × AV)) (ag sz by' z el fl):blD P s d len l (some ⟨ag,sz,by',z,some el,none,fl⟩)=blE s d el len l (AY P el):=rfl
theorem Vr (el len:Nat) (l:List (Nat × AV)) (de:TyD):blE s d el len l (some de)=blZ s d el len de l de.zero:=rfl
theorem Vs (el len:Nat) (de:TyD) (l:List (Nat × AV)) (z:Value):blZ s d el len de l (some z)=blF s d el len de (Az z) (G0 de.sz (List.replicate len (Az z)) l):=rfl
theorem Vt (T:List AV) (H:List Blk) (cn el len:Nat) (de:TyD) (z:AV) (es:List AV) (h:(z.stor && (z.cells.length == de.sz) && decide (0 < de.sz) && decide (len * de.sz≤16777216))=true):
  blF ⟨T,H,cn⟩ d el len de z (some es)=some (St.put ⟨T,H++[⟨true,cn,el,de.sz,es,true⟩],cn+1⟩ d (.sl H.length cn 0 len)):=by
 simp only [blF,h,lx6]
def apX (s:St) (d:Option Nat) (el:Nat) (de:TyD) (ys:List AV) (H1:List Blk):AV→Option St
 | .vw true []=>if decide (ys.length * de.bytes≤140737488355328)=true then
   some (St.put { s with H:=H1++[⟨true,s.cnt,el,de.sz,ys,false⟩],cnt:=s.cnt+1 } d (.sl H1.length s.cnt 0 ys.length)) else none
 | .sl id ver lo len=>match AE H1 id ver with
  | some B=>if ((B.esz == de.sz) && (B.ty == el) && decide ((len+ys.length) * de.bytes≤140737488355328))=true then
    some (St.put { s with H:=H1.set id ⟨true,s.cnt,el,de.sz,(B.els.drop lo).take len++ys,false⟩,cnt:=s.cnt+1 } d (.sl id s.cnt 0 (len+ys.length))) else none
  | none=>none
 | _=>none
def apY (s:St) (d:Option Nat) (el:Nat) (de:TyD) (x y:AV):Option Value→Option (List AV)→Option St
 | some z,some ys=>if (decide (0 < de.sz) && decide (0 < de.bytes) && (z.cells.size == de.sz) && CY de.sz ys)=true then apX s d el de ys (BP s.H y) x else none
 | _,_=>none
def apE (s:St) (d:Option Nat) (el:Nat) (x y:AV) (ys:Option (List AV)):Option TyD→Option St
 | some de=>apY s d el de x y de.zero ys
 | none=>none
def apD (P:Program) (s:St) (d:Option Nat) (x y:AV) (ys:Option (List AV)):Option TyD→Option St
 | some dd=>match dd.el,dd.len with
  | some el,none=>apE s d el x y ys (AY P el)
  | _,_=>none
 | none=>none
theorem Jm (sz:Nat):∀ es:List AV,es.all (fun e=>e.cells.length=sz)=CY sz es
 | []=>rfl
 | e::r=>by rw [List.all_cons,Jm sz r,CY]
theorem Ly (t:TypeId) (x y:Operand):Au P s (.call ⟨.builtin .append,#[x,y],#[t,t]⟩) d=apD P s d (ev s.T x) (ev s.T y) (Me s.H (ev s.T y)) (AY P t):=by
 simp only [Au,apD,lx6]
 cases AY P t with
 | none=>rfl
 | some dd=>
  simp only
  cases dd.el with
  | none=>rfl
  | some el=>
   cases dd.len with
   | some _=>rfl
   | none=>
    simp only [apE]
    cases AY P el with
    | none=>rfl
    | some de=>
     simp only [apY]
     cases de.zero with
     | none=>rfl
     | some z=>
      cases Me s.H (ev s.T y) with
      | none=>rfl
      | some ys=>
       simp only
       rw [Jm]
       by_cases h:0 < de.sz∧0 < de.bytes∧z.cells.size=de.sz∧CY de.sz ys=true
       ·have h1:(decide (0 < de.sz) && decide (0 < de.bytes) && (z.cells.size == de.sz) && CY de.sz ys)=true:=by simp [h.1,h.2.1,h.2.2.1,h.2.2.2]
        rw [if_pos h,if_pos h1]
        generalize ev s.T x=q
        cases q with
        | sl id ver lo len=>
         simp only [apX]
         cases AE (BP s.H (ev s.T y)) id ver with
         | none=>rfl
         | some B=>
          simp only
          by_cases h2:B.esz=de.sz∧B.ty=el∧(len+ys.length) * de.bytes≤140737488355328
          ·have h3:((B.esz == de.sz) && (B.ty == el) && decide ((len+ys.length) * de.bytes≤140737488355328))=true:=by simp [h2.1,h2.2.1,h2.2.2]
           rw [if_pos h2,if_pos h3]
          ·rw [if_neg h2,if_neg]
           intro h'
           simp only [AH,lx85,AR] at h'
           exact h2 ⟨h'.1.1,h'.1.2,h'.2⟩
        | vw z es=>cases z <;> cases es <;> simp [apX]
        | _=>rfl
       ·exact Aqr
theorem Aft (x y:AV) (ys:Option (List AV)) (ag sz by' z el fl):apD P s d x y ys (some ⟨ag,sz,by',z,some el,none,fl⟩)=apE s d el x y ys (AY P el):=rfl
theorem Vu (el:Nat) (x y:AV) (ys:Option (List AV)) (de:TyD):apE s d el x y ys (some de)=apY s d el de x y de.zero ys:=rfl
theorem Vv (el:Nat) (de:TyD) (x y:AV) (z:Value) (ys:List AV) (h:(decide (0 < de.sz) && decide (0 < de.bytes) && (z.cells.size == de.sz) && CY de.sz ys)=true):
  apY s d el de x y (some z) (some ys)=apX s d el de ys (BP s.H y) x:=by
 simp only [apY,h,lx6]
theorem Zx (T:List AV) (H:List Blk) (c el:Nat) (de:TyD) (ys:List AV) (H1:List Blk) (h:decide (ys.length * de.bytes≤140737488355328)=true):
  apX ⟨T,H,c⟩ d el de ys H1 (.vw true [])=some (St.put ⟨T,H1++[⟨true,c,el,de.sz,ys,false⟩],c+1⟩ d (.sl H1.length c 0 ys.length)):=by
 simp only [apX,h,lx6]
def apB (s:St) (d:Option Nat) (el:Nat) (de:TyD) (ys:List AV) (H1:List Blk) (id lo len:Nat):Option Blk→Option St
 | some B=>if ((B.esz == de.sz) && (B.ty == el) && decide ((len+ys.length) * de.bytes≤140737488355328))=true then
    some (St.put { s with H:=H1.set id ⟨true,s.cnt,el,de.sz,(B.els.drop lo).take len++ys,false⟩,cnt:=s.cnt+1 } d (.sl id s.cnt 0 (len+ys.length))) else none
 | none=>none
theorem Afu (el:Nat) (de:TyD) (ys:List AV) (H1:List Blk) (id ver lo len:Nat):apX s d el de ys H1 (.sl id ver lo len)=apB s d el de ys H1 id lo len (AE H1 id ver):=by
 simp only [apX,apB]
theorem Vw (T:List AV) (H:List Blk) (c el:Nat) (de:TyD) (ys:List AV) (H1:List Blk) (id lo len:Nat) (B:Blk)
  (h:((B.esz == de.sz) && (B.ty == el) && decide ((len+ys.length) * de.bytes≤140737488355328))=true):
  apB ⟨T,H,c⟩ d el de ys H1 id lo len (some B)=some (St.put ⟨T,H1.set id ⟨true,c,el,de.sz,(B.els.drop lo).take len++ys,false⟩,c+1⟩ d (.sl id c 0 (len+ys.length))):=by
 simp only [apB,h,lx6]
def crB (s:St) (d:Option Nat) (de:TyD) (z:AV) (id lo len:Nat):Option Blk→Option St
 | some B=>if (decide (0 < de.sz) && (B.esz == de.sz) && z.stor && (z.cells.length == de.sz))=true then
   some (St.put { s with H:=s.H.set id { B with els:=B.els.take lo++List.replicate len z++B.els.drop (lo+len) } } d (.tu [])) else none
 | none=>none
def crX (s:St) (d:Option Nat) (de:TyD) (z:AV):AV→Option St
 | .sl id ver lo len=>crB s d de z id lo len (AE s.H id ver)
 | _=>none
def crZ (s:St) (d:Option Nat) (de:TyD) (x:AV):Option Value→Option St
 | some z=>crX s d de (Az z) x
 | none=>none
def crE (s:St) (d:Option Nat) (x:AV):Option TyD→Option St
 | some de=>crZ s d de x de.zero
 | none=>none
def crD (P:Program) (s:St) (d:Option Nat) (x:AV):Option TyD→Option St
 | some dd=>match dd.el,dd.len with
  | some el,none=>crE s d x (AY P el)
  | _,_=>none
 | none=>none
theorem Nk (t:TypeId) (x:Operand):Au P s (.call ⟨.builtin .clear,#[x],#[t]⟩) d=crD P s d (ev s.T x) (AY P t):=by
 simp only [Au,crD]
 cases AY P t with
 | none=>rfl
 | some dd=>
  simp only
  cases dd.el with
  | none=>rfl
  | some el=>
   cases dd.len with
   | some _=>rfl
   | none=>
    simp only [crE]
    cases AY P el with
    | none=>rfl
    | some de=>
     simp only [crZ]
     cases hz:de.zero with
     | none=>rfl
     | some z=>
      simp only
      generalize ev s.T x=q
      cases q <;> try rfl
      rename_i id ver lo len
      simp only [crX,crB]
      cases AE s.H id ver with
      | none=>rfl
      | some B=>
       simp only
       by_cases h:0 < de.sz∧B.esz=de.sz∧(Az z).stor=true∧(Az z).cells.length=de.sz
       ·rw [if_pos h,if_pos (by simp [h.1,h.2.1,h.2.2.1,h.2.2.2])]
       ·exact Aqr
theorem Afv (x:AV) (ag sz by' z el fl):crD P s d x (some ⟨ag,sz,by',z,some el,none,fl⟩)=crE s d x (AY P el):=rfl
theorem Vx (x:AV) (de:TyD):crE s d x (some de)=crZ s d de x de.zero:=rfl
theorem Vy (x:AV) (de:TyD) (z:Value):crZ s d de x (some z)=crX s d de (Az z) x:=rfl
theorem Afw (z:AV) (de:TyD) (id ver lo len:Nat):crX s d de z (.sl id ver lo len)=crB s d de z id lo len (AE s.H id ver):=rfl
theorem Vz (T:List AV) (H:List Blk) (c:Nat) (de:TyD) (z:AV) (id lo len:Nat) (B:Blk) (h:(decide (0 < de.sz) && (B.esz == de.sz) && z.stor && (z.cells.length == de.sz))=true):
  crB ⟨T,H,c⟩ d de z id lo len (some B)=some (St.put ⟨T,H.set id { B with els:=B.els.take lo++List.replicate len z++B.els.drop (lo+len) },c⟩ d (.tu [])):=by
 simp only [crB,h,lx6]
def alZ (s:St) (d:Option Nat) (t:Nat) (z:AV):Option St:=
 if z.stor=true then some (St.put { s with H:=s.H++[⟨true,s.cnt,t,z.cells.length,[z],false⟩],cnt:=s.cnt+1 } d (.pt s.H.length s.cnt 0 0)) else none
def alO (s:St) (d:Option Nat) (t:Nat):Option Value→Option St
 | some z=>alZ s d t (Az z)
 | none=>none
def alD (s:St) (d:Option Nat) (t:Nat):Option TyD→Option St
 | some dd=>alO s d t dd.zero
 | none=>none
theorem Nl (t:TypeId):Au P s (.alloc t) d=alD s d t (AY P t):=by
 simp only [Au,alD,alO,alZ]
 cases AY P t with
 | none=>rfl
 | some dd=>simp only; cases dd.zero <;> rfl
theorem VA (t:Nat) (dd:TyD):alD s d t (some dd)=alO s d t dd.zero:=rfl
theorem VB (t:Nat) (z:Value):alO s d t (some z)=alZ s d t (Az z):=rfl
theorem Afx (T:List AV) (H:List Blk) (c t:Nat) (z:AV) (h:z.stor=true):alZ ⟨T,H,c⟩ d t z=some (St.put ⟨T,H++[⟨true,c,t,z.cells.length,[z],false⟩],c+1⟩ d (.pt H.length c 0 0)):=by
 simp only [alZ,h,lx6]
theorem RC (t:TypeId) (x:Operand):Au P s (.box t x) d=alZ s d t (ev s.T x):=rfl
theorem Zy (a:Option Addr) (c:Nat):Me H (.sc (.slice a 0 c))=some []:=rfl
theorem Ake (z:Bool) (es:List AV):Me H (.vw z es)=if es.all (·.noref)=true then some es else none:=rfl
theorem VC (z:Bool) (es:List AV) (h:norefs es=true):Me H (.vw z es)=some es:=by
 have:∀ l:List AV,norefs l=true→l.all (·.noref)=true:=by
  intro l
  induction l with
  | nil=>intro _; rfl
  | cons a r ih=>
   intro h
   simp only [norefs,AH] at h
   simp [h.1,ih h.2]
 rw [Ake,if_pos (this es h)]
theorem C8 {α:Type} {f:α→AV} (h:∀ x,(f x).noref=true):∀ l:List α,norefs (l.map f)=true
 | []=>by simp [norefs]
 | x::r=>by simp [norefs,h x,C8 h r]
def elL (lo len:Nat):Option Blk→Option (List AV)
 | some B=>some ((B.els.drop lo).take len)
 | none=>none
theorem Zz (id ver lo len:Nat):Me H (.sl id ver lo len)=elL lo len (AE H id ver):=by
 simp only [Me,elL]; cases AE H id ver <;> rfl
theorem VD (lo len:Nat) (B:Blk):elL lo len (some B)=some ((B.els.drop lo).take len):=rfl
def ppB (H:List Blk) (id:Nat):Option Blk→List Blk
 | some B=>if B.tmp=true∧id+1=H.length then H.dropLast else H
 | none=>H
theorem RD (z:Bool) (es:List AV):BP H (.vw z es)=H:=rfl
theorem RE (id ver lo len:Nat):BP H (.sl id ver lo len)=ppB H id H[id]?:=by
 simp only [BP,ppB]
 cases H[id]? <;> rfl
theorem VE (id:Nat) (B:Blk):ppB H id (some B)=if B.tmp=true∧id+1=H.length then H.dropLast else H:=rfl
def lvB (ver:Nat):Option Blk→Option Blk
 | some B=>if B.live=true∧B.ver=ver then some B else none
 | none=>none
theorem VF (id ver:Nat):AE H id ver=lvB ver H[id]?:=by
 simp only [AE,lvB]
 cases H[id]? <;> rfl
theorem Afy (ver v ty esz:Nat) (els:List AV) (tmp:Bool):lvB ver (some ⟨true,v,ty,esz,els,tmp⟩)=if v=ver then some ⟨true,v,ty,esz,els,tmp⟩ else none:=by
 simp [lvB]
end
end Go.SX
namespace Go.SX
open Go.RowKit (Below)
mutual
theorem Pk {w X X0 hc} (hr:HR w X hc) (hx:∀ b,X0 b→X b) (ho:∀ b,Ys hc b→¬ X0 b):∀ (a:AV) {v:Value},VR w X (some hc) a v→VR w X0 (some BW) (Ap hc.H a) v
 | .sc x,v,h=>by cases h with | sc h=>exact .sc h
 | .un,v,h=>by cases h; exact .un
 | .jk,v,_=>.jk
 | .vw z es,v,h=>by
  cases h with
  | vw0 hz hm=>exact .vw0 hz hm
  | vw1 f hne hX hb hcap hz hmax hsz hcl hv=>exact .vw1 f hne (fun h=>hX (hx _ h)) hb hcap hz hmax hsz hcl (fun i e j a h1 h2=>(hv i e j a h1 h2).antiX hx)
 | .vp es i off,v,h=>by
  cases h with
  | vp f hX hb hsz hcl hv=>exact .vp f (fun h=>hX (hx _ h)) hb hsz hcl (fun i e j a h1 h2=>(hv i e j a h1 h2).antiX hx)
 | .ag cs,v,h=>by
  cases h with
  | ag hl h1 h2=>
   have:=Hq hr hx ho cs ⟨hl,h1⟩
   exact .ag this.1 this.2 h2
 | .tu cs,v,h=>by
  cases h with
  | tu hl h1=>
   have:=Hq hr hx ho cs ⟨hl,h1⟩
   exact .tu this.1 this.2
 | .fn f cs,v,h=>by
  cases h with
  | fn hl h1=>
   have:=Hq hr hx ho cs ⟨hl,h1⟩
   exact .fn this.1 this.2
 | .pt id ver i off,v,h=>by
  simp only [Ap]
  split
  ·rename_i B hl
   obtain ⟨b,base,h1,h2,h3,⟨cs,h4⟩,h5⟩:=Gu hr h hl
   obtain ⟨g1,g2,g3⟩:=Ba hl
   subst h2
   refine .vp (fun i j=>(w.cell? ⟨b,base+i * B.esz+j,none⟩).getD undef) (ho b ⟨id,B,base,g1,g2,h1⟩) (hr.lt b h3) ?_ ?_ ?_
   ·exact Adm
   ·intro i j hi hj
    exact Ajv
   ·intro i e j a he ha
    obtain ⟨q1,q2⟩:=h5 i e he
    obtain ⟨c,e1,e2,e3⟩:=q2 j a ha
    rw [e1]
    exact e3.close.antiX hx
  ·exact .jk
 | .sl id ver lo len,v,h=>by
  simp only [Ap]
  split
  ·rename_i B hl
   obtain ⟨g1,g2,g3⟩:=Ba hl
   cases h with
   | sl q1 q2=>
    obtain ⟨r1,r2⟩:=q2 _ rfl
    obtain ⟨r3,r4⟩:=r2 B g1 g2 g3
    have hlen:((B.els.drop lo).take len).length=len:=E6
    have hB:=hr.blk id B g1 g2
    rcases r4 with ⟨r4,p,hp⟩ | ⟨b,base,cap,nn,hloc,k1,k2,k3,k4,k5⟩
    ·exact Adi
    ·have hB2:=hB.2.2
     rw [hloc] at hB2
     obtain ⟨m1,⟨cs,m2⟩,m3⟩:=hB2
     subst k1
     by_cases h0:len=0
     ·exact Adj
     ·have hne:(B.els.drop lo).take len≠[]:=by intro e; rw [e] at hlen; simp at hlen; omega
      have hget:∀ i e,((B.els.drop lo).take len)[i]?=some e→B.els[lo+i]?=some e:=by
       intro i e he
       rw [lx19] at he
       split at he
       ·rwa [lx20] at he
       ·cases he
      have:=VR.vw1 (w:=w) (X:=X0) (o:=some BW) (z:=false) (es:=(B.els.drop lo).take len) (b:=b) (base:=base+lo * B.esz) (cap:=cap) (esz:=B.esz)
       (fun i j=>(w.cell? ⟨b,base+lo * B.esz+i * B.esz+j,none⟩).getD undef) hne (ho b ⟨id,B,base,g1,g2,hloc⟩) (hr.lt b m1) (by rw [hlen]; exact k2) (fun h=>by cases h) k3
       (fun e he=>by
        obtain ⟨i,hi⟩:=lx44.1 he
        exact (m3 _ e (hget i e hi)).1)
       (fun i j hi hj=>by
        have he:((B.els.drop lo).take len)[i]?=some ((B.els.drop lo).take len)[i]:=lx51 hi
        obtain ⟨q1,q2⟩:=m3 _ _ (hget i _ he)
        obtain ⟨c,e1,e2,e3⟩:=q2 j (((B.els.drop lo).take len)[i].cells[j]'(by omega)) (by simp)
        rw [Gt,←Gd] at e1
        rw [e1]
        exact ⟨rfl,e2⟩)
       (fun i e j a he ha=>by
        obtain ⟨q1,q2⟩:=m3 _ e (hget i e he)
        obtain ⟨c,e1,e2,e3⟩:=q2 j a ha
        rw [Gt,←Gd] at e1
        rw [e1]
        exact e3.close.antiX hx)
      rw [hlen] at this
      exact this
  ·exact .jk
theorem Hq {w X X0 hc} (hr:HR w X hc) (hx:∀ b,X0 b→X b) (ho:∀ b,Ys hc b→¬ X0 b):∀ (as:List AV) {vs:List Value},VL w X (some hc) as vs→VL w X0 (some BW) (Al hc.H as) vs
 | [],vs,h=>by rw [h.unnil]; exact .nil
 | a::r,vs,h=>by
  obtain ⟨v,vs',rfl,h1,h2⟩:=h.uncons
  exact .cons (Pk hr hx ho a h1) (Hq hr hx ho r h2)
end
def Db (P:Program) (f:FuncId) (args:List AV) (r:AV):Prop:=
 HM P f∧r.noref=true∧∀ (w:World) (X0:Nat→Prop) (cargs:Array Value),(∀ b,X0 b→b < w.heap.size)→VL w X0 (some BW) args cargs.toList→
  Calls P f cargs w fun e w'=>∃ c,e=.returned c∧VR w' X0 (some BW) r c∧Below w.heap.size w w'
theorem VL.close {w X o as vs} (h:VL w X o as vs):VL w X none as vs:=⟨h.1,fun i a v h1 h2=>(h.2 i a v h1 h2).close⟩
theorem Pl {P:Program} {f:FuncId} {args:List AV} {r:AV} (hv:Db P f args r) (hn:norefs args=true) (H:List Blk) (cnt:Nat):HSpec P f args H cnt r H cnt:=by
 obtain ⟨h1,h2,h3⟩:=hv
 refine ⟨h1,fun w X loc cargs hr hl=>?_⟩
 refine (h3 w X cargs hr.lt (GC _ hn hl.close)).mono ?_
 rintro e w' ⟨c,rfl,g1,g2⟩
 exact ⟨X,loc,c,rfl,hr.below g2,Ge _ h2 g1.close,DW g2 X _⟩
def VOk (P:Program) (g:Nat) (F:List AV→Option AV):Prop:=∀ args r,F args=some r→Db P g args r
inductive VOks (P:Program):List (Nat × (List AV→Option AV))→Prop
 | nil:VOks P []
 | cons {g F r} (h:VOk P g F) (t:VOks P r):VOks P ((g,F)::r)
def hcV (H:List Blk) (cnt:Nat):Bool→Option AV→Option (AV × List Blk × Nat)
 | true,some r=>some (r,H,cnt)
 | _,_=>none
theorem VG (H:List Blk) (cnt:Nat) (r:AV):hcV H cnt true (some r)=some (r,H,cnt):=rfl
def Awc (l lv:List (Nat × (List AV→Option AV))):Env:=⟨D8 l,pl l,fun g args H cnt=>hcV H cnt (norefs args) (pl lv g args),false,fun _=>none,fun _=>false⟩
theorem Akf {P:Program} {l lv:List (Nat × (List AV→Option AV))} (h:POks P l) (hv:VOks P lv):EnvOk P (Awc l lv) where
 p:=(Lv h).p
 h f args H cnt r H' cnt' he:=by
  simp only [Awc] at he
  cases hn:norefs args with
  | false=>rw [hn] at he; simp [hcV] at he
  | true=>
   rw [hn] at he
   cases hp:pl lv f args with
   | none=>rw [hp] at he; simp [hcV] at he
   | some q=>
    rw [hp] at he
    simp only [hcV,lx16,lx40] at he
    obtain ⟨rfl,rfl,rfl⟩:=he
    refine Pl ?_ hn H cnt
    induction hv with
    | nil=>simp [pl] at hp
    | @cons g F l h t ih=>
     simp only [pl] at hp
     split at hp
     ·rename_i hh; subst hh; exact h args q hp
     ·exact ih hp
section
variable {P:Program} {E:Env} {n0:Nat} {rs:List ResultVar} {R:AV→St→Prop}
theorem Abi {k:List Item} {T T':List AV} {H H':List Blk} {c c':Nat} (id:Nat) (B:Blk) (hB:H[id]?=some B) (hl:B.live=true) (hid:n0≤id) (hn:∀ e ∈ B.els,∀ a ∈ e.cells,a.noref=true)
  (hT:Xa id B T T') (hH:∀ (k:Nat) (A':Blk),H'[k]?=some A'→A'.live=true→k≠id∧∃ A,H[k]?=some A∧FrzB id B A A') (hc:c≤c')
  (h:Go P E n0 rs R k ⟨T',H',c'⟩):Go P E n0 rs R k ⟨T,H,c⟩:=by
 exact .ghost (s':=⟨T',H',c'⟩) (fun w X loc a hs=>Mj id B hs hB hl hid hn hT hH hc) h
end
end Go.SX
namespace Go.SX
noncomputable def EP {α:Type} (q:α→Prop) (enc:α→List AV) (out:α→AV) (args:List AV):Option AV:=
 open Classical in if h:∃ x,q x∧enc x=args then some (out (Classical.choose h)) else none
theorem AG {α:Type} {q:α→Prop} {enc:α→List AV} {out:α→AV} (x:α) (hq:q x) (hi:∀ y,enc y=enc x→y=x):EP q enc out (enc x)=some (out x):=by
 unfold EP
 have h:∃ y,q y∧enc y=enc x:=⟨x,hq,rfl⟩
 rw [dif_pos h,hi _ (lx95 h).2]
theorem Akg {α:Type} {q:α→Prop} {enc:α→List AV} {out:α→AV} {args:List AV} {r:AV} (h:EP q enc out args=some r):∃ x,q x∧enc x=args∧out x=r:=by
 unfold EP at h
 split at h
 ·rename_i hx
  injection h with h
  exact ⟨_,(lx95 hx).1,(lx95 hx).2,h⟩
 ·cases h
theorem AQ {P:Program} {g:Nat} {α:Type} {q:α→Prop} {enc:α→List AV} {out:α→AV} (h:∀ x,q x→CO P g (enc x) (out x)):Eb P g (EP q enc out):=by
 exact Adp
theorem SC {P:Program} {g:Nat} {α:Type} {q:α→Prop} {enc:α→List AV} {out:α→AV} (h:∀ x,q x→Db P g (enc x) (out x)):VOk P g (EP q enc out):=by
 exact Adp
def kA (k:IntKind) (n:Int):AV:=.sc (.int k n)
def bA (b:Bool):AV:=.sc (.bool b)
theorem AB (k:IntKind) (n:Int):kA k n=.sc (.int k n):=rfl
theorem AU (b:Bool):bA b=.sc (.bool b):=rfl
theorem Bt {k:IntKind} {a b:Int} (h:kA k a=kA k b):a=b:=by unfold kA at h; injection h with h; injection h with _ h
theorem DX {α:Type} {f:α→AV} (hf:∀ a b,f a=f b→a=b):∀ {l m:List α},l.map f=m.map f→l=m
 | [],[],_=>rfl
 | a::l,b::m,h=>by
  simp only [lx32,lx96] at h
  rw [hf a b h.1,DX hf h.2]
 | [],b::m,h=>by simp at h
 | a::l,[],h=>by simp at h
theorem Dw (k:IntKind) (l:List Int):CY 1 (l.map (kA k))=true:=Dy (f:=kA k) (fun _=>rfl) l
theorem Dh {α:Type} [Inhabited α] {f:α→AV} {l:List α} {n:Nat} {d:TyD} {off:Nat} (h:decide (n < l.length)=true):ldV d off (l.map f)[n]?=ldW (EN d (f (l.getD n default)).cells off):=by
 rw [Zs (by simpa using h)]; rfl
def Mo {α:Type} (p:α→Bool) (l:List α):Int:=match l.findIdx? p with | some i=>i | none=>-1
theorem JN {α:Type} [Inhabited α] {p:α→Bool} {l:List α} {r:Nat} (hr:r < l.length) (hp:p (l.getD r default)=true) (hn:∀ j,j < r→p (l.getD j default)=false):Mo p l=r:=by
 have:l.findIdx? p=some r:=by
  rw [List.findIdx?_eq_some_iff_getElem]
  refine ⟨hr,?_,fun j hj=>?_⟩
  ·rw [lx80,lx51 hr] at hp; exact hp
  ·have:=hn j hj
   rw [lx80,lx51 (by omega),lx10] at this
   rw [this]; decide
 rw [Mo,this]
theorem SD {α:Type} [Inhabited α] {p:α→Bool} {l:List α} (hn:∀ j,j < l.length→p (l.getD j default)=false):Mo p l=-1:=by
 have:l.findIdx? p=none:=by
  rw [List.findIdx?_eq_none_iff]
  intro x hx
  obtain ⟨j,hj,rfl⟩:=lx69 hx
  have:=hn j hj
  rwa [lx80,lx51 hj,lx10] at this
 rw [Mo,this]
theorem Lz {α:Type} {p:α→Bool} {l:List α}:decide (0≤Mo p l)=l.any p:=by
 unfold Mo
 cases h:l.findIdx? p with
 | none=>
  rw [List.findIdx?_eq_none_iff] at h
  have:l.any p=false:=by rw [lx97]; intro x hx; rw [h x hx]; decide
  rw [this]; rfl
 | some i=>
  have hi:=List.findIdx?_eq_some_iff_getElem.1 h
  obtain ⟨hl,hp,_⟩:=hi
  have:l.any p=true:=List.any_eq_true.2 ⟨_,lx90 hl,hp⟩
  rw [this,AR]
  exact Nv i
section
variable {P:Program} {s:St} {T:List AV} {H:List Blk}
def bnd (hi:Nat):AV→Option Nat
 | .sc (.int _ n)=>Oo n hi
 | _=>none
theorem Jn (d hi:Nat):AT T none d hi=some d:=rfl
theorem Nm (x:Operand) (d hi:Nat):AT T (some x) d hi=bnd hi (ev T x):=by
 simp only [AT,bnd]
 rfl
theorem Afz {hi:Nat} {k:IntKind} {n:Int} (h0:decide (0≤n)=true) (h1:decide (n≤(hi:Int))=true):bnd hi (.sc (.int k n))=some n.toNat:=by
 simp only [AR] at h0 h1
 simp [bnd,Oo,h0,h1]
def slG (z:Bool) (es:List AV) (h:Nat):Option Nat→Option AV
 | some l=>some (.vw (z && decide (h=es.length)) ((es.drop l).take (h - l)))
 | none=>none
def slF (T:List AV) (z:Bool) (es:List AV) (lo:Option Operand):Option Nat→Option AV
 | some h=>slG z es h (AT T lo 0 h)
 | none=>none
def slK (id ver lo' h:Nat):Option Nat→Option AV
 | some l=>some (.sl id ver (lo'+l) (h - l))
 | none=>none
def slI (T:List AV) (id ver lo':Nat) (lo:Option Operand):Option Nat→Option AV
 | some h=>slK id ver lo' h (AT T lo 0 h)
 | none=>none
def slH (T:List AV) (de:TyD) (id ver lo' len:Nat) (lo hi:Option Operand):Option Blk→Option AV
 | some B=>if (B.esz == de.sz)=true then slI T id ver lo' lo (AT T hi len len) else none
 | none=>none
def slE (T:List AV) (H:List Blk) (lo hi:Option Operand):AV→Option TyD→Option AV
 | .vw z es,some de=>if CY de.sz es=true then slF T z es lo (AT T hi es.length es.length) else none
 | .sl id ver lo' len,some de=>slH T de id ver lo' len lo hi (AE H id ver)
 | _,_=>none
def arC (es:List AV) (off m h:Nat):Option AV→Option AV
 | some e=>if (decide (off+m≤e.cells.length) && decide (m≤1000000) && CY 1 e.cells)=true then some (.vw false ((e.cells.drop off).take h)) else none
 | none=>none
def arB (es:List AV) (i off m:Nat):Option Nat→Option AV
 | some h=>arC es off m h es[i]?
 | none=>none
def arA (T:List AV) (lo hi:Option Operand) (m:Nat):AV→Option TyD→Option AV
 | .vp es i off,some de=>match lo with
  | none=>if (de.sz == 1)=true then arB es i off m (AT T hi m m) else none
  | some _=>none
 | _,_=>none
def Awf (P:Program) (t:TypeId):Option Value→Option (Option Value)→Option (Option Value)→Option AV
 | some a,some l,some h=>match Bp P (Instr.sliceAt t a l h none) with
  | some v=>some (KY v)
  | none=>none
 | _,_,_=>none
def slD (P:Program) (t:TypeId) (T:List AV) (H:List Blk) (lo hi:Option Operand) (v:AV):Option TyD→Option AV
 | some d=>match d.el,d.len with
  | some el,none=>slE T H lo hi v (AY P el)
  | some el,some m=>arA T lo hi m v (AY P el)
  | none,none=>Awf P t (BZ v) (Fp T lo) (Fp T hi)
  | _,_=>none
 | none=>none
theorem Pm (t:TypeId) (x:Operand) (lo hi:Option Operand):Av P s (.slice t x lo hi none)=slD P t s.T s.H lo hi (ev s.T x) (AY P t):=by
 simp only [Av,slD]
 cases AY P t with
 | none=>rfl
 | some d=>
  simp only
  cases d.el with
  | none=>
   cases d.len with
   | some m=>rfl
   | none=>
    simp only [Awf,show Fp s.T none=some none from rfl]
    generalize Fp s.T lo=a
    generalize Fp s.T hi=b
    cases BZ (ev s.T x) <;> cases a <;> cases b <;> rfl
  | some el=>
   cases d.len with
   | some m=>
    simp only
    cases AY P el with
    | none=>cases ev s.T x <;> rfl
    | some de=>
     cases ev s.T x with
     | vp es i off=>
      cases lo with
      | some lo=>rfl
      | none=>
       simp only [arA]
       cases AT s.T hi m m with
       | none=>
        cases es[i]? with
        | none=>by_cases hz:de.sz=1 <;> simp [hz,arB]
        | some e=>by_cases hz:de.sz=1 <;> simp [hz,arB]
       | some h=>
        cases hei:es[i]? with
        | none=>by_cases hz:de.sz=1 <;> simp [hz,arB,arC,hei]
        | some e=>
         simp only [arB,arC,hei,Jm]
         by_cases hz:de.sz=1
         ·by_cases hc:off+m≤e.cells.length∧m≤1000000∧CY 1 e.cells=true
          ·rw [if_pos ⟨hz,hc⟩,if_pos (by simp [hz]),if_pos (by simp [hc.1,hc.2.1,hc.2.2])]
          ·rw [if_neg (fun h=>hc h.2),if_pos (by simp [hz]),if_neg]
           intro h'
           simp only [AH,AR] at h'
           exact hc ⟨h'.1.1,h'.1.2,h'.2⟩
         ·rw [if_neg (fun h=>hz h.1),if_neg (by simpa using hz)]
     | _=>rfl
   | none=>
    simp only
    cases AY P el with
    | none=>cases ev s.T x <;> rfl
    | some de=>
     simp only
     cases ev s.T x with
     | vw z es=>
      simp only [slE,Jn]
      by_cases ha:CY de.sz es=true
      ·rw [if_pos ha]
       cases AT s.T hi es.length es.length with
       | none=>rfl
       | some h=>
        simp only [slF]
        cases AT s.T lo 0 h with
        | none=>rfl
        | some l=>
         simp only [slG]
         rw [if_pos ⟨by rw [Jm]; exact ha,by simp⟩]
         rfl
      ·rw [if_neg ha]
       cases AT s.T hi es.length es.length with
       | none=>rfl
       | some h=>
        simp only
        cases AT s.T lo 0 h with
        | none=>rfl
        | some l=>
         simp only
         rw [if_neg]
         rintro ⟨h1,_⟩
         rw [Jm] at h1
         exact ha h1
     | sl id ver lo' len=>
      simp only [slE,slH]
      cases AE s.H id ver with
      | none=>rfl
      | some B=>
       simp only [slI,slK]
       by_cases hb:B.esz=de.sz
       ·cases AT s.T hi len len with
        | none=>simp [hb]
        | some h=>cases hl:AT s.T lo 0 h <;> simp [hb,hl]
       ·cases AT s.T hi len len with
        | none=>simp [hb]
        | some h=>cases hl:AT s.T lo 0 h <;> simp [hb,hl]
     | _=>rfl
theorem Ag0 (t:TypeId) (lo hi:Option Operand) (v:AV) (ag sz by' z el fl):slD P t T H lo hi v (some ⟨ag,sz,by',z,some el,none,fl⟩)=slE T H lo hi v (AY P el):=rfl
theorem Ag1 {lo hi:Option Operand} {z:Bool} {es:List AV} {de:TyD} (h:CY de.sz es=true):slE T H lo hi (.vw z es) (some de)=slF T z es lo (AT T hi es.length es.length):=by simp [slE,h]
theorem Ag2 (lo hi:Option Operand) (id ver lo' len:Nat) (de:TyD):slE T H lo hi (.sl id ver lo' len) (some de)=slH T de id ver lo' len lo hi (AE H id ver):=rfl
theorem VH {de:TyD} {id ver lo' len:Nat} {lo hi:Option Operand} {B:Blk} (h:(B.esz == de.sz)=true):slH T de id ver lo' len lo hi (some B)=slI T id ver lo' lo (AT T hi len len):=by simp [slH,h]
theorem VI (z:Bool) (es:List AV) (lo:Option Operand) (h:Nat):slF T z es lo (some h)=slG z es h (AT T lo 0 h):=rfl
theorem VJ (z:Bool) (es:List AV) (h l:Nat):slG z es h (some l)=some (.vw (z && decide (h=es.length)) ((es.drop l).take (h - l))):=rfl
theorem VK (id ver lo':Nat) (lo:Option Operand) (h:Nat):slI T id ver lo' lo (some h)=slK id ver lo' h (AT T lo 0 h):=rfl
theorem VM (id ver lo' h l:Nat):slK id ver lo' h (some l)=some (.sl id ver (lo'+l) (h - l)):=rfl
end
section
variable {P:Program} {s:St}
def mm (P:Program) (b:Builtin) (ats:Array TypeId) (args:List AV):Option AV:=
 match De args with
 | some l=>match Bp P (match b with | .min=>Builtin.min_ ats 0 l.toArray | _=>Builtin.max_ ats 0 l.toArray) with
  | some v=>some (KY v)
  | none=>none
 | none=>none
theorem VN (x y:Operand) (t t':TypeId):Av P s (.call ⟨.builtin .min,#[x,y],#[t,t']⟩)=mm P .min #[t,t'] [ev s.T x,ev s.T y]:=rfl
theorem VO (x y:Operand) (t t':TypeId):Av P s (.call ⟨.builtin .max,#[x,y],#[t,t']⟩)=mm P .max #[t,t'] [ev s.T x,ev s.T y]:=rfl
theorem Ag3 (ats:Array TypeId) (k:IntKind) (a b:Int):mm P .min ats [.sc (.int k a),.sc (.int k b)]=some (.sc (.int k (min a b))):=by
 have:Bp P (Builtin.min_ ats 0 #[.int k a,.int k b])=some (.int k (min a b)):=by
  simp [Bp,Builtin.min_,Builtin.min2,Ai,Ak,List.foldlM]
  split <;> omega
 simp only [mm,De,BZ,this]
 rfl
theorem Ag4 (ats:Array TypeId) (k:IntKind) (a b:Int):mm P .max ats [.sc (.int k a),.sc (.int k b)]=some (.sc (.int k (max a b))):=by
 have:Bp P (Builtin.max_ ats 0 #[.int k a,.int k b])=some (.int k (max a b)):=by
  simp [Bp,Builtin.max_,Builtin.max2,Ai,Ak,List.foldlM]
  split <;> omega
 simp only [mm,De,BZ,this]
 rfl
end
theorem RF (k:IntKind) (n:Int):Az (.int k n)=.sc (.int k n):=rfl
theorem RG (b:ByteArray):Az (.string b)=.sc (.string b):=rfl
theorem Nn:Az (.slice none 0 0)=.vw true []:=rfl
theorem Pn (k:IntKind) (n:Int):(Value.int k n).cells.size=1:=rfl
theorem Po (cs:List Value):(Value.agg cs.toArray).cells.size=cs.length:=rfl
theorem Arh (x:AV):List.replicate 1 x=[x]:=rfl
theorem Awg (x:AV):List.replicate 2 x=[x,x]:=rfl
theorem Awh (x:AV):List.replicate 3 x=[x,x,x]:=rfl
theorem Awi (x:AV):List.replicate 5 x=[x,x,x,x,x]:=rfl
theorem RH {α:Type} (a:α):[a].dropLast=[]:=rfl
theorem RI {α:Type} (a b:α) (l:List α):(a::b::l).dropLast=a::(b::l).dropLast:=rfl
end Go.SX
