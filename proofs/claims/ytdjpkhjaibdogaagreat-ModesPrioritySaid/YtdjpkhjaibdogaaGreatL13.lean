/-
  Lemmas towards ModesPriority (joined texts: SXH, SXJ, SXM).
  Conditions: none.
-/
import Derived.Test.YtdjpkhjaibdogaaGreatL01
import Derived.Test.YtdjpkhjaibdogaaGreatL12
set_option linter.unusedSimpArgs false
set_option linter.unusedVariables false
set_option maxRecDepth 100000
namespace Go.SX
section
variable {P:Program} {s:St} {H:List Blk} {d:Option Nat}
theorem Aem {α:Type} [Inhabited α] {f:α→AV} {l:List α} {n:Nat} (h:n < l.length):(l.map f)[n]?=some (f (l.getD n default)):=by
 rw [lx23,lx50 h,lx34,lx81,lx50 h,lx4]
theorem map_set {α:Type} (f:α→AV) (l:List α) (n:Nat) (x:α):(l.map f).set n (f x)=(l.set n x).map f:=by
 rw [List.map_set]
theorem Aen (v:Value):AV.stor (.sc v)=true:=rfl
theorem Aeo (cs:List AV):AV.stor (.ag cs)=true:=rfl
theorem Aep (z:Bool) (es:List AV):AV.stor (.vw z es)=true:=rfl
theorem Aeq (a b c d:Nat):AV.stor (.sl a b c d)=true:=rfl
def stS (s:St) (d:Option Nat) (id i:Nat) (B:Blk):Option AV→Option St
 | some e'=>some (St.put { s with H:=s.H.set id { B with els:=B.els.set i e' } } d .un)
 | none=>none
def stE (s:St) (d:Option Nat) (v:AV) (id i off sz:Nat) (B:Blk):Option AV→Option St
 | some e=>if (v.stor && (v.cells.length == sz) && decide (0 < sz))=true then stS s d id i B (e.setC off v.cells) else none
 | none=>none
def stB (s:St) (d:Option Nat) (v:AV) (id i off sz:Nat):Option Blk→Option St
 | some B=>stE s d v id i off sz B B.els[i]?
 | none=>none
def stA (s:St) (d:Option Nat) (v:AV) (dd:TyD):AV→Option St
 | .pt id ver i off=>stB s d v id i off dd.sz (AJ s.H id ver)
 | _=>none
def stD (s:St) (d:Option Nat) (v a:AV):Option TyD→Option St
 | some dd=>stA s d v dd a
 | none=>none
theorem OW (t:TypeId) (a x:Operand):Aw P s (.store t a x) d=stD s d (ev s.T x) (ev s.T a) (AR P t):=by
 simp only [Aw,stD]
 cases AR P t with
 | none=>rfl
 | some dd=>
  simp only
  generalize ev s.T a=q
  cases q <;> try rfl
  rename_i id ver i off
  simp only [stA,stB]
  generalize AJ s.H id ver=B
  cases B with
  | none=>rfl
  | some B=>
   simp only [stE]
   generalize B.els[i]?=e
   cases e with
   | none=>rfl
   | some e=>
    simp only [stS]
    by_cases h:(ev s.T x).stor=true∧(ev s.T x).cells.length=dd.sz∧0 < dd.sz
    ·rw [if_pos h,if_pos (by simp [h.1,h.2.1,h.2.2])]
     cases AV.setC e _ (ev s.T x).cells <;> rfl
    ·rw [if_neg h,if_neg]
     intro h'
     simp only [AH,lx86,Bw] at h'
     exact h ⟨h'.1.1,h'.1.2,h'.2⟩
theorem Yk (v a:AV) (dd:TyD):stD s d v a (some dd)=stA s d v dd a:=rfl
theorem Alq (v:AV) (dd:TyD) (id ver i off:Nat):stA s d v dd (.pt id ver i off)=stB s d v id i off dd.sz (AJ s.H id ver):=rfl
theorem Yl (v:AV) (id i off sz:Nat) (B:Blk):stB s d v id i off sz (some B)=stE s d v id i off sz B B.els[i]?:=rfl
theorem Ym (v:AV) (id i off sz:Nat) (B:Blk) (e:AV) (h:(v.stor && (v.cells.length == sz) && decide (0 < sz))=true):stE s d v id i off sz B (some e)=stS s d id i B (e.setC off v.cells):=by
 simp [stE,h]
theorem Yn (T:List AV) (H:List Blk) (c id i:Nat) (B:Blk) (e:AV):stS ⟨T,H,c⟩ d id i B (some e)=some (St.put ⟨T,H.set id { B with els:=B.els.set i e },c⟩ d .un):=rfl
def mkS (s:St) (d:Option Nat) (el:Nat) (de:TyD) (z:AV):AV→AV→Option St
 | .sc (.int _ n),.sc (.int _ m)=>if (z.stor && (z.cells.length == de.sz) && decide (0 < de.sz) && decide (0 < de.bytes) && decide (0≤n) && decide (n≤m) && decide (m * de.bytes≤140737488355328))=true then
   some (St.put { s with H:=s.H++[⟨true,s.cnt,el,de.sz,List.replicate n.toNat z,false⟩],cnt:=s.cnt+1 } d (.sl s.H.length s.cnt 0 n.toNat)) else none
 | _,_=>none
def mkZ (s:St) (d:Option Nat) (el:Nat) (de:TyD) (l c:AV):Option Value→Option St
 | some z=>mkS s d el de (Ax z) l c
 | none=>none
def mkE (s:St) (d:Option Nat) (el:Nat) (l c:AV):Option TyD→Option St
 | some de=>mkZ s d el de l c de.zero
 | none=>none
def mkD (P:Program) (s:St) (d:Option Nat) (l c:AV):Option TyD→Option St
 | some dd=>match dd.el,dd.len with
  | some el,none=>mkE s d el l c (AR P el)
  | _,_=>none
 | none=>none
theorem Jn (t:TypeId) (l c:Operand):Aw P s (.makeSlice t l c) d=mkD P s d (ev s.T l) (ev s.T c) (AR P t):=by
 simp only [Aw,mkD]
 cases AR P t with
 | none=>rfl
 | some dd=>
  simp only
  cases dd.el with
  | none=>rfl
  | some el=>
   cases dd.len with
   | some _=>rfl
   | none=>
    simp only [mkE]
    cases AR P el with
    | none=>rfl
    | some de=>
     simp only [mkZ]
     cases hz:de.zero with
     | none=>rfl
     | some z=>
      simp only [mkS]
      generalize ev s.T l=u
      generalize ev s.T c=v
      cases u <;> try rfl
      rename_i u
      cases u <;> try rfl
      cases v <;> try rfl
      rename_i v
      cases v <;> try rfl
      rename_i k n k' m
      simp only
      by_cases h:(Ax z).stor=true∧(Ax z).cells.length=de.sz∧0 < de.sz∧0 < de.bytes∧0≤n∧n≤m∧m * de.bytes≤140737488355328
      ·rw [if_pos h,if_pos (by simp [h.1,h.2.1,h.2.2.1,h.2.2.2.1,h.2.2.2.2.1,h.2.2.2.2.2.1,h.2.2.2.2.2.2])]
      ·rw [if_neg h,if_neg]
       intro h'
       simp only [AH,lx86,Bw] at h'
       exact h ⟨h'.1.1.1.1.1.1,h'.1.1.1.1.1.2,h'.1.1.1.1.2,h'.1.1.1.2,h'.1.1.2,h'.1.2,h'.2⟩
theorem Alr (l c:AV) (ag sz by' z el fl):mkD P s d l c (some ⟨ag,sz,by',z,some el,none,fl⟩)=mkE s d el l c (AR P el):=rfl
theorem Yo (el:Nat) (l c:AV) (de:TyD):mkE s d el l c (some de)=mkZ s d el de l c de.zero:=rfl
theorem Yp (el:Nat) (de:TyD) (l c:AV) (z:Value):mkZ s d el de l c (some z)=mkS s d el de (Ax z) l c:=rfl
theorem Als (T:List AV) (H:List Blk) (cn el:Nat) (de:TyD) (z:AV) (k k':IntKind) (n m:Int)
  (h:(z.stor && (z.cells.length == de.sz) && decide (0 < de.sz) && decide (0 < de.bytes) && decide (0≤n) && decide (n≤m) && decide (m * de.bytes≤140737488355328))=true):
  mkS ⟨T,H,cn⟩ d el de z (.sc (.int k n)) (.sc (.int k' m))=some (St.put ⟨T,H++[⟨true,cn,el,de.sz,List.replicate n.toNat z,false⟩],cn+1⟩ d (.sl H.length cn 0 n.toNat)):=by
 simp only [mkS,h,lx8]
def blF (s:St) (d:Option Nat) (el len:Nat) (de:TyD) (z:AV):Option (List AV)→Option St
 | some es=>if (z.stor && (z.cells.length == de.sz) && decide (0 < de.sz) && decide (len * de.sz≤16777216))=true then
   some (St.put { s with H:=s.H++[⟨true,s.cnt,el,de.sz,es,true⟩],cnt:=s.cnt+1 } d (.sl s.H.length s.cnt 0 len)) else none
 | none=>none
def blZ (s:St) (d:Option Nat) (el len:Nat) (de:TyD) (l:List (Nat × AV)):Option Value→Option St
 | some z=>blF s d el len de (Ax z) (G5 de.sz (List.replicate len (Ax z)) l)
 | none=>none
def blE (s:St) (d:Option Nat) (el len:Nat) (l:List (Nat × AV)):Option TyD→Option St
 | some de=>blZ s d el len de l de.zero
 | none=>none
def blD (P:Program) (s:St) (d:Option Nat) (len:Nat) (l:List (Nat × AV)):Option TyD→Option St
 | some dd=>match dd.el,dd.len with
  | some el,none=>blE s d el len l (AR P el)
  | _,_=>none
 | none=>none
theorem Ig (t:TypeId) (len:Nat) (ps:Array (Nat × Operand)):Aw P s (.buildSlice t len ps) d=blD P s d len (ps.toList.map fun p=>(p.1,ev s.T p.2)) (AR P t):=by
 simp only [Aw,blD]
 cases AR P t with
 | none=>rfl
 | some dd=>
  simp only
  cases dd.el with
  | none=>rfl
  | some el=>
   cases dd.len with
   | some _=>rfl
   | none=>
    simp only [blE]
    cases AR P el with
    | none=>rfl
    | some de=>
     simp only [blZ]
     cases hz:de.zero with
     | none=>rfl
     | some z=>
      simp only
      generalize G5 de.sz (List.replicate len (Ax z)) _=q
      cases q with
      | none=>rfl
      | some es=>
       simp only [blF]
       by_cases h:(Ax z).stor=true∧(Ax z).cells.length=de.sz∧0 < de.sz∧len * de.sz≤16777216
       ·rw [if_pos h,if_pos (by simp [h.1,h.2.1,h.2.2.1,h.2.2.2])]
       ·exact Ayc
theorem Alu (len:Nat) (l:List (Nat × AV)) (ag sz by' z el fl):blD P s d len l (some ⟨ag,sz,by',z,some el,none,fl⟩)=blE s d el len l (AR P el):=rfl
theorem Yq (el len:Nat) (l:List (Nat × AV)) (de:TyD):blE s d el len l (some de)=blZ s d el len de l de.zero:=rfl
theorem Yr (el len:Nat) (de:TyD) (l:List (Nat × AV)) (z:Value):blZ s d el len de l (some z)=blF s d el len de (Ax z) (G5 de.sz (List.replicate len (Ax z)) l):=rfl
theorem Ys (T:List AV) (H:List Blk) (cn el len:Nat) (de:TyD) (z:AV) (es:List AV) (h:(z.stor && (z.cells.length == de.sz) && decide (0 < de.sz) && decide (len * de.sz≤16777216))=true):
  blF ⟨T,H,cn⟩ d el len de z (some es)=some (St.put ⟨T,H++[⟨true,cn,el,de.sz,es,true⟩],cn+1⟩ d (.sl H.length cn 0 len)):=by
 simp only [blF,h,lx8]
def apX (s:St) (d:Option Nat) (el:Nat) (de:TyD) (ys:List AV) (H1:List Blk):AV→Option St
 | .vw true []=>if decide (ys.length * de.bytes≤140737488355328)=true then
   some (St.put { s with H:=H1++[⟨true,s.cnt,el,de.sz,ys,false⟩],cnt:=s.cnt+1 } d (.sl H1.length s.cnt 0 ys.length)) else none
 | .sl id ver lo len=>match AJ H1 id ver with
  | some B=>if ((B.esz == de.sz) && (B.ty == el) && decide ((len+ys.length) * de.bytes≤140737488355328))=true then
    some (St.put { s with H:=H1.set id ⟨true,s.cnt,el,de.sz,(B.els.drop lo).take len++ys,false⟩,cnt:=s.cnt+1 } d (.sl id s.cnt 0 (len+ys.length))) else none
  | none=>none
 | _=>none
def apY (s:St) (d:Option Nat) (el:Nat) (de:TyD) (x y:AV):Option Value→Option (List AV)→Option St
 | some z,some ys=>if (decide (0 < de.sz) && decide (0 < de.bytes) && (z.cells.size == de.sz) && Bs de.sz ys)=true then apX s d el de ys (BQ s.H y) x else none
 | _,_=>none
def apE (s:St) (d:Option Nat) (el:Nat) (x y:AV) (ys:Option (List AV)):Option TyD→Option St
 | some de=>apY s d el de x y de.zero ys
 | none=>none
def apD (P:Program) (s:St) (d:Option Nat) (x y:AV) (ys:Option (List AV)):Option TyD→Option St
 | some dd=>match dd.el,dd.len with
  | some el,none=>apE s d el x y ys (AR P el)
  | _,_=>none
 | none=>none
theorem Ih (sz:Nat):∀ es:List AV,es.all (fun e=>e.cells.length=sz)=Bs sz es
 | []=>rfl
 | e::r=>by rw [List.all_cons,Ih sz r,Bs]
theorem My (t:TypeId) (x y:Operand):Aw P s (.call ⟨.builtin .append,#[x,y],#[t,t]⟩) d=apD P s d (ev s.T x) (ev s.T y) (L7 s.H (ev s.T y)) (AR P t):=by
 simp only [Aw,apD,lx8]
 cases AR P t with
 | none=>rfl
 | some dd=>
  simp only
  cases dd.el with
  | none=>rfl
  | some el=>
   cases dd.len with
   | some _=>rfl
   | none=>
    simp only [apE]
    cases AR P el with
    | none=>rfl
    | some de=>
     simp only [apY]
     cases de.zero with
     | none=>rfl
     | some z=>
      cases L7 s.H (ev s.T y) with
      | none=>rfl
      | some ys=>
       simp only
       rw [Ih]
       by_cases h:0 < de.sz∧0 < de.bytes∧z.cells.size=de.sz∧Bs de.sz ys=true
       ·have h1:(decide (0 < de.sz) && decide (0 < de.bytes) && (z.cells.size == de.sz) && Bs de.sz ys)=true:=by simp [h.1,h.2.1,h.2.2.1,h.2.2.2]
        rw [if_pos h,if_pos h1]
        generalize ev s.T x=q
        cases q with
        | sl id ver lo len=>
         simp only [apX]
         cases AJ (BQ s.H (ev s.T y)) id ver with
         | none=>rfl
         | some B=>
          simp only
          by_cases h2:B.esz=de.sz∧B.ty=el∧(len+ys.length) * de.bytes≤140737488355328
          ·have h3:((B.esz == de.sz) && (B.ty == el) && decide ((len+ys.length) * de.bytes≤140737488355328))=true:=by simp [h2.1,h2.2.1,h2.2.2]
           rw [if_pos h2,if_pos h3]
          ·rw [if_neg h2,if_neg]
           intro h'
           simp only [AH,lx86,Bw] at h'
           exact h2 ⟨h'.1.1,h'.1.2,h'.2⟩
        | vw z es=>cases z <;> cases es <;> simp [apX]
        | _=>rfl
       ·exact Ayc
theorem Alv (x y:AV) (ys:Option (List AV)) (ag sz by' z el fl):apD P s d x y ys (some ⟨ag,sz,by',z,some el,none,fl⟩)=apE s d el x y ys (AR P el):=rfl
theorem Yt (el:Nat) (x y:AV) (ys:Option (List AV)) (de:TyD):apE s d el x y ys (some de)=apY s d el de x y de.zero ys:=rfl
theorem Yu (el:Nat) (de:TyD) (x y:AV) (z:Value) (ys:List AV) (h:(decide (0 < de.sz) && decide (0 < de.bytes) && (z.cells.size == de.sz) && Bs de.sz ys)=true):
  apY s d el de x y (some z) (some ys)=apX s d el de ys (BQ s.H y) x:=by
 simp only [apY,h,lx8]
theorem Aer (T:List AV) (H:List Blk) (c el:Nat) (de:TyD) (ys:List AV) (H1:List Blk) (h:decide (ys.length * de.bytes≤140737488355328)=true):
  apX ⟨T,H,c⟩ d el de ys H1 (.vw true [])=some (St.put ⟨T,H1++[⟨true,c,el,de.sz,ys,false⟩],c+1⟩ d (.sl H1.length c 0 ys.length)):=by
 simp only [apX,h,lx8]
def apB (s:St) (d:Option Nat) (el:Nat) (de:TyD) (ys:List AV) (H1:List Blk) (id lo len:Nat):Option Blk→Option St
 | some B=>if ((B.esz == de.sz) && (B.ty == el) && decide ((len+ys.length) * de.bytes≤140737488355328))=true then
    some (St.put { s with H:=H1.set id ⟨true,s.cnt,el,de.sz,(B.els.drop lo).take len++ys,false⟩,cnt:=s.cnt+1 } d (.sl id s.cnt 0 (len+ys.length))) else none
 | none=>none
theorem Alw (el:Nat) (de:TyD) (ys:List AV) (H1:List Blk) (id ver lo len:Nat):apX s d el de ys H1 (.sl id ver lo len)=apB s d el de ys H1 id lo len (AJ H1 id ver):=by
 simp only [apX,apB]
theorem Yv (T:List AV) (H:List Blk) (c el:Nat) (de:TyD) (ys:List AV) (H1:List Blk) (id lo len:Nat) (B:Blk)
  (h:((B.esz == de.sz) && (B.ty == el) && decide ((len+ys.length) * de.bytes≤140737488355328))=true):
  apB ⟨T,H,c⟩ d el de ys H1 id lo len (some B)=some (St.put ⟨T,H1.set id ⟨true,c,el,de.sz,(B.els.drop lo).take len++ys,false⟩,c+1⟩ d (.sl id c 0 (len+ys.length))):=by
 simp only [apB,h,lx8]
def crB (s:St) (d:Option Nat) (de:TyD) (z:AV) (id lo len:Nat):Option Blk→Option St
 | some B=>if (decide (0 < de.sz) && (B.esz == de.sz) && z.stor && (z.cells.length == de.sz))=true then
   some (St.put { s with H:=s.H.set id { B with els:=B.els.take lo++List.replicate len z++B.els.drop (lo+len) } } d (.tu [])) else none
 | none=>none
def crX (s:St) (d:Option Nat) (de:TyD) (z:AV):AV→Option St
 | .sl id ver lo len=>crB s d de z id lo len (AJ s.H id ver)
 | _=>none
def crZ (s:St) (d:Option Nat) (de:TyD) (x:AV):Option Value→Option St
 | some z=>crX s d de (Ax z) x
 | none=>none
def crE (s:St) (d:Option Nat) (x:AV):Option TyD→Option St
 | some de=>crZ s d de x de.zero
 | none=>none
def crD (P:Program) (s:St) (d:Option Nat) (x:AV):Option TyD→Option St
 | some dd=>match dd.el,dd.len with
  | some el,none=>crE s d x (AR P el)
  | _,_=>none
 | none=>none
theorem OX (t:TypeId) (x:Operand):Aw P s (.call ⟨.builtin .clear,#[x],#[t]⟩) d=crD P s d (ev s.T x) (AR P t):=by
 simp only [Aw,crD]
 cases AR P t with
 | none=>rfl
 | some dd=>
  simp only
  cases dd.el with
  | none=>rfl
  | some el=>
   cases dd.len with
   | some _=>rfl
   | none=>
    simp only [crE]
    cases AR P el with
    | none=>rfl
    | some de=>
     simp only [crZ]
     cases hz:de.zero with
     | none=>rfl
     | some z=>
      simp only
      generalize ev s.T x=q
      cases q <;> try rfl
      rename_i id ver lo len
      simp only [crX,crB]
      cases AJ s.H id ver with
      | none=>rfl
      | some B=>
       simp only
       by_cases h:0 < de.sz∧B.esz=de.sz∧(Ax z).stor=true∧(Ax z).cells.length=de.sz
       ·rw [if_pos h,if_pos (by simp [h.1,h.2.1,h.2.2.1,h.2.2.2])]
       ·exact Ayc
theorem Alx (x:AV) (ag sz by' z el fl):crD P s d x (some ⟨ag,sz,by',z,some el,none,fl⟩)=crE s d x (AR P el):=rfl
theorem Yw (x:AV) (de:TyD):crE s d x (some de)=crZ s d de x de.zero:=rfl
theorem Yx (x:AV) (de:TyD) (z:Value):crZ s d de x (some z)=crX s d de (Ax z) x:=rfl
theorem Aly (z:AV) (de:TyD) (id ver lo len:Nat):crX s d de z (.sl id ver lo len)=crB s d de z id lo len (AJ s.H id ver):=rfl
theorem Yy (T:List AV) (H:List Blk) (c:Nat) (de:TyD) (z:AV) (id lo len:Nat) (B:Blk) (h:(decide (0 < de.sz) && (B.esz == de.sz) && z.stor && (z.cells.length == de.sz))=true):
  crB ⟨T,H,c⟩ d de z id lo len (some B)=some (St.put ⟨T,H.set id { B with els:=B.els.take lo++List.replicate len z++B.els.drop (lo+len) },c⟩ d (.tu [])):=by
 simp only [crB,h,lx8]
def alZ (s:St) (d:Option Nat) (t:Nat) (z:AV):Option St:=
 if z.stor=true then some (St.put { s with H:=s.H++[⟨true,s.cnt,t,z.cells.length,[z],false⟩],cnt:=s.cnt+1 } d (.pt s.H.length s.cnt 0 0)) else none
def alO (s:St) (d:Option Nat) (t:Nat):Option Value→Option St
 | some z=>alZ s d t (Ax z)
 | none=>none
def alD (s:St) (d:Option Nat) (t:Nat):Option TyD→Option St
 | some dd=>alO s d t dd.zero
 | none=>none
theorem OY (t:TypeId):Aw P s (.alloc t) d=alD s d t (AR P t):=by
 simp only [Aw,alD,alO,alZ]
 cases AR P t with
 | none=>rfl
 | some dd=>simp only; cases dd.zero <;> rfl
theorem Yz (t:Nat) (dd:TyD):alD s d t (some dd)=alO s d t dd.zero:=rfl
theorem YE (t:Nat) (z:Value):alO s d t (some z)=alZ s d t (Ax z):=rfl
theorem Alz (T:List AV) (H:List Blk) (c t:Nat) (z:AV) (h:z.stor=true):alZ ⟨T,H,c⟩ d t z=some (St.put ⟨T,H++[⟨true,c,t,z.cells.length,[z],false⟩],c+1⟩ d (.pt H.length c 0 0)):=by
 simp only [alZ,h,lx8]
theorem Ug (t:TypeId) (x:Operand):Aw P s (.box t x) d=alZ s d t (ev s.T x):=rfl
theorem Aes (a:Option Addr) (c:Nat):L7 H (.sc (.slice a 0 c))=some []:=rfl
theorem Ar9 (z:Bool) (es:List AV):L7 H (.vw z es)=if es.all (·.noref)=true then some es else none:=rfl
theorem YF (z:Bool) (es:List AV) (h:norefs es=true):L7 H (.vw z es)=some es:=by
 have:∀ l:List AV,norefs l=true→l.all (·.noref)=true:=by
  intro l
  induction l with
  | nil=>intro _; rfl
  | cons a r ih=>
   intro h
   simp only [norefs,AH] at h
   simp [h.1,ih h.2]
 rw [Ar9,if_pos (this es h)]
theorem Co {α:Type} {f:α→AV} (h:∀ x,(f x).noref=true):∀ l:List α,norefs (l.map f)=true
 | []=>by simp [norefs]
 | x::r=>by simp [norefs,h x,Co h r]
def elL (lo len:Nat):Option Blk→Option (List AV)
 | some B=>some ((B.els.drop lo).take len)
 | none=>none
theorem Aet (id ver lo len:Nat):L7 H (.sl id ver lo len)=elL lo len (AJ H id ver):=by
 simp only [L7,elL]; cases AJ H id ver <;> rfl
theorem YG (lo len:Nat) (B:Blk):elL lo len (some B)=some ((B.els.drop lo).take len):=rfl
def ppB (H:List Blk) (id:Nat):Option Blk→List Blk
 | some B=>if B.tmp=true∧id+1=H.length then H.dropLast else H
 | none=>H
theorem Uh (z:Bool) (es:List AV):BQ H (.vw z es)=H:=rfl
theorem Ui (id ver lo len:Nat):BQ H (.sl id ver lo len)=ppB H id H[id]?:=by
 simp only [BQ,ppB]
 cases H[id]? <;> rfl
theorem YH (id:Nat) (B:Blk):ppB H id (some B)=if B.tmp=true∧id+1=H.length then H.dropLast else H:=rfl
def lvB (ver:Nat):Option Blk→Option Blk
 | some B=>if B.live=true∧B.ver=ver then some B else none
 | none=>none
theorem YI (id ver:Nat):AJ H id ver=lvB ver H[id]?:=by
 simp only [AJ,lvB]
 cases H[id]? <;> rfl
theorem Am0 (ver v ty esz:Nat) (els:List AV) (tmp:Bool):lvB ver (some ⟨true,v,ty,esz,els,tmp⟩)=if v=ver then some ⟨true,v,ty,esz,els,tmp⟩ else none:=by
 simp [lvB]
end
end Go.SX
namespace Go.SX
open Go.RowKit (Below)
mutual
theorem RK {w X X0 hc} (hr:HR w X hc) (hx:∀ b,X0 b→X b) (ho:∀ b,Own hc b→¬ X0 b):∀ (a:AV) {v:Value},VR w X (some hc) a v→VR w X0 (some Cc) (Am hc.H a) v
 | .sc x,v,h=>by cases h with | sc h=>exact .sc h
 | .un,v,h=>by cases h; exact .un
 | .jk,v,_=>.jk
 | .vw z es,v,h=>by
  cases h with
  | vw0 hz hm=>exact .vw0 hz hm
  | vw1 f hne hX hb hcap hz hmax hsz hcl hv=>exact .vw1 f hne (fun h=>hX (hx _ h)) hb hcap hz hmax hsz hcl (fun i e j a h1 h2=>(hv i e j a h1 h2).antiX hx)
 | .vp es i off,v,h=>by
  cases h with
  | vp f hX hb hsz hcl hv=>exact .vp f (fun h=>hX (hx _ h)) hb hsz hcl (fun i e j a h1 h2=>(hv i e j a h1 h2).antiX hx)
 | .ag cs,v,h=>by
  cases h with
  | ag hl h1 h2=>
   have:=HF hr hx ho cs ⟨hl,h1⟩
   exact .ag this.1 this.2 h2
 | .tu cs,v,h=>by
  cases h with
  | tu hl h1=>
   have:=HF hr hx ho cs ⟨hl,h1⟩
   exact .tu this.1 this.2
 | .fn f cs,v,h=>by
  cases h with
  | fn hl h1=>
   have:=HF hr hx ho cs ⟨hl,h1⟩
   exact .fn this.1 this.2
 | .pt id ver i off,v,h=>by
  simp only [Am]
  split
  ·rename_i B hl
   obtain ⟨b,base,h1,h2,h3,⟨cs,h4⟩,h5⟩:=Gy hr h hl
   obtain ⟨g1,g2,g3⟩:=Bc hl
   subst h2
   refine .vp (fun i j=>(w.cell? ⟨b,base+i * B.esz+j,none⟩).getD undef) (ho b ⟨id,B,base,g1,g2,h1⟩) (hr.lt b h3) ?_ ?_ ?_
   ·exact Aym
   ·intro i j hi hj
    exact Aqn
   ·intro i e j a he ha
    obtain ⟨q1,q2⟩:=h5 i e he
    obtain ⟨c,e1,e2,e3⟩:=q2 j a ha
    rw [e1]
    exact e3.close.antiX hx
  ·exact .jk
 | .sl id ver lo len,v,h=>by
  simp only [Am]
  split
  ·rename_i B hl
   obtain ⟨g1,g2,g3⟩:=Bc hl
   cases h with
   | sl q1 q2=>
    obtain ⟨r1,r2⟩:=q2 _ rfl
    obtain ⟨r3,r4⟩:=r2 B g1 g2 g3
    have hlen:((B.els.drop lo).take len).length=len:=F6
    have hB:=hr.blk id B g1 g2
    rcases r4 with ⟨r4,p,hp⟩ | ⟨b,base,cap,nn,hloc,k1,k2,k3,k4,k5⟩
    ·exact Ajq
    ·have hB2:=hB.2.2
     rw [hloc] at hB2
     obtain ⟨m1,⟨cs,m2⟩,m3⟩:=hB2
     subst k1
     by_cases h0:len=0
     ·exact Ajr
     ·have hne:(B.els.drop lo).take len≠[]:=by intro e; rw [e] at hlen; simp at hlen; omega
      have hget:∀ i e,((B.els.drop lo).take len)[i]?=some e→B.els[lo+i]?=some e:=by
       intro i e he
       rw [lx19] at he
       split at he
       ·rwa [lx20] at he
       ·cases he
      have:=VR.vw1 (w:=w) (X:=X0) (o:=some Cc) (z:=false) (es:=(B.els.drop lo).take len) (b:=b) (base:=base+lo * B.esz) (cap:=cap) (esz:=B.esz)
       (fun i j=>(w.cell? ⟨b,base+lo * B.esz+i * B.esz+j,none⟩).getD undef) hne (ho b ⟨id,B,base,g1,g2,hloc⟩) (hr.lt b m1) (by rw [hlen]; exact k2) (fun h=>by cases h) k3
       (fun e he=>by
        obtain ⟨i,hi⟩:=lx44.1 he
        exact (m3 _ e (hget i e hi)).1)
       (fun i j hi hj=>by
        have he:((B.els.drop lo).take len)[i]?=some ((B.els.drop lo).take len)[i]:=lx50 hi
        obtain ⟨q1,q2⟩:=m3 _ _ (hget i _ he)
        obtain ⟨c,e1,e2,e3⟩:=q2 j (((B.els.drop lo).take len)[i].cells[j]'(by omega)) (by simp)
        rw [Gx,←F0] at e1
        rw [e1]
        exact ⟨rfl,e2⟩)
       (fun i e j a he ha=>by
        obtain ⟨q1,q2⟩:=m3 _ e (hget i e he)
        obtain ⟨c,e1,e2,e3⟩:=q2 j a ha
        rw [Gx,←F0] at e1
        rw [e1]
        exact e3.close.antiX hx)
      rw [hlen] at this
      exact this
  ·exact .jk
theorem HF {w X X0 hc} (hr:HR w X hc) (hx:∀ b,X0 b→X b) (ho:∀ b,Own hc b→¬ X0 b):∀ (as:List AV) {vs:List Value},VL w X (some hc) as vs→VL w X0 (some Cc) (Aj hc.H as) vs
 | [],vs,h=>by rw [h.unnil]; exact .nil
 | a::r,vs,h=>by
  obtain ⟨v,vs',rfl,h1,h2⟩:=h.uncons
  exact .cons (RK hr hx ho a h1) (HF hr hx ho r h2)
end
def Ba (P:Program) (f:FuncId) (args:List AV) (r:AV):Prop:=
 Ia P f∧r.noref=true∧∀ (w:World) (X0:Nat→Prop) (cargs:Array Value),(∀ b,X0 b→b < w.heap.size)→VL w X0 (some Cc) args cargs.toList→
  Calls P f cargs w fun e w'=>∃ c,e=.returned c∧VR w' X0 (some Cc) r c∧Below w.heap.size w w'
theorem VL.close {w X o as vs} (h:VL w X o as vs):VL w X none as vs:=⟨h.1,fun i a v h1 h2=>(h.2 i a v h1 h2).close⟩
theorem Lt {P:Program} {f:FuncId} {args:List AV} {r:AV} (hv:Ba P f args r) (hn:norefs args=true) (H:List Blk) (cnt:Nat):HSpec P f args H cnt r H cnt:=by
 obtain ⟨h1,h2,h3⟩:=hv
 refine ⟨h1,fun w X loc cargs hr hl=>?_⟩
 refine (h3 w X cargs hr.lt (H7 _ hn hl.close)).mono ?_
 rintro e w' ⟨c,rfl,g1,g2⟩
 exact ⟨X,loc,c,rfl,hr.below g2,F7 _ h2 g1.close,DL g2 X _⟩
def VOk (P:Program) (g:Nat) (F:List AV→Option AV):Prop:=∀ args r,F args=some r→Ba P g args r
inductive VOks (P:Program):List (Nat × (List AV→Option AV))→Prop
 | nil:VOks P []
 | cons {g F r} (h:VOk P g F) (t:VOks P r):VOks P ((g,F)::r)
def hcV (H:List Blk) (cnt:Nat):Bool→Option AV→Option (AV × List Blk × Nat)
 | true,some r=>some (r,H,cnt)
 | _,_=>none
theorem YJ (H:List Blk) (cnt:Nat) (r:AV):hcV H cnt true (some r)=some (r,H,cnt):=rfl
def Bek (l lv:List (Nat × (List AV→Option AV))):Env:=⟨Ds l,pl l,fun g args H cnt=>hcV H cnt (norefs args) (pl lv g args),false,fun _=>none,fun _=>false⟩
theorem Arb {P:Program} {l lv:List (Nat × (List AV→Option AV))} (h:POks P l) (hv:VOks P lv):EnvOk P (Bek l lv) where
 p:=(Kt h).p
 h f args H cnt r H' cnt' he:=by
  simp only [Bek] at he
  cases hn:norefs args with
  | false=>rw [hn] at he; simp [hcV] at he
  | true=>
   rw [hn] at he
   cases hp:pl lv f args with
   | none=>rw [hp] at he; simp [hcV] at he
   | some q=>
    rw [hp] at he
    simp only [hcV,lx16,lx40] at he
    obtain ⟨rfl,rfl,rfl⟩:=he
    refine Lt ?_ hn H cnt
    induction hv with
    | nil=>simp [pl] at hp
    | @cons g F l h t ih=>
     simp only [pl] at hp
     split at hp
     ·rename_i hh; subst hh; exact h args q hp
     ·exact ih hp
section
variable {P:Program} {E:Env} {n0:Nat} {rs:List ResultVar} {R:AV→St→Prop}
theorem Ahp {k:List Item} {T T':List AV} {H H':List Blk} {c c':Nat} (id:Nat) (B:Blk) (hB:H[id]?=some B) (hl:B.live=true) (hid:n0≤id) (hn:∀ e ∈ B.els,∀ a ∈ e.cells,a.noref=true)
  (hT:Aas id B T T') (hH:∀ (k:Nat) (A':Blk),H'[k]?=some A'→A'.live=true→k≠id∧∃ A,H[k]?=some A∧FrzB id B A A') (hc:c≤c')
  (h:Go P E n0 rs R k ⟨T',H',c'⟩):Go P E n0 rs R k ⟨T,H,c⟩:=by
 exact .ghost (s':=⟨T',H',c'⟩) (fun w X loc a hs=>NK id B hs hB hl hid hn hT hH hc) h
end
end Go.SX
namespace Go.SX
noncomputable def EF {α:Type} (q:α→Prop) (enc:α→List AV) (out:α→AV) (args:List AV):Option AV:=
 open Classical in if h:∃ x,q x∧enc x=args then some (out (Classical.choose h)) else none
theorem AK {α:Type} {q:α→Prop} {enc:α→List AV} {out:α→AV} (x:α) (hq:q x) (hi:∀ y,enc y=enc x→y=x):EF q enc out (enc x)=some (out x):=by
 unfold EF
 have h:∃ y,q y∧enc y=enc x:=⟨x,hq,rfl⟩
 rw [dif_pos h,hi _ (lx93 h).2]
theorem Arc {α:Type} {q:α→Prop} {enc:α→List AV} {out:α→AV} {args:List AV} {r:AV} (h:EF q enc out args=some r):∃ x,q x∧enc x=args∧out x=r:=by
 unfold EF at h
 split at h
 ·rename_i hx
  injection h with h
  exact ⟨_,(lx93 hx).1,(lx93 hx).2,h⟩
 ·cases h
theorem AN {P:Program} {g:Nat} {α:Type} {q:α→Prop} {enc:α→List AV} {out:α→AV} (h:∀ x,q x→Ap P g (enc x) (out x)):DC P g (EF q enc out):=by
 exact Ayp
theorem Am1 {P:Program} {g:Nat} {α:Type} {q:α→Prop} {enc:α→List AV} {out:α→AV} (h:∀ x,q x→Ba P g (enc x) (out x)):VOk P g (EF q enc out):=by
 exact Ayp
def kA (k:IntKind) (n:Int):AV:=.sc (.int k n)
def bA (b:Bool):AV:=.sc (.bool b)
theorem AL (k:IntKind) (n:Int):kA k n=.sc (.int k n):=rfl
theorem Bb (b:Bool):bA b=.sc (.bool b):=rfl
theorem BR {k:IntKind} {a b:Int} (h:kA k a=kA k b):a=b:=by unfold kA at h; injection h with h; injection h with _ h
theorem DM {α:Type} {f:α→AV} (hf:∀ a b,f a=f b→a=b):∀ {l m:List α},l.map f=m.map f→l=m
 | [],[],_=>rfl
 | a::l,b::m,h=>by
  simp only [lx31,lx94] at h
  rw [hf a b h.1,DM hf h.2]
 | [],b::m,h=>by simp at h
 | a::l,[],h=>by simp at h
theorem DH (k:IntKind) (l:List Int):Bs 1 (l.map (kA k))=true:=BT (f:=kA k) (fun _=>rfl) l
theorem CX {α:Type} [Inhabited α] {f:α→AV} {l:List α} {n:Nat} {d:TyD} {off:Nat} (h:decide (n < l.length)=true):ldV d off (l.map f)[n]?=ldW (DZ d (f (l.getD n default)).cells off):=by
 rw [Aem (by simpa using h)]; rfl
def RL {α:Type} (p:α→Bool) (l:List α):Int:=match l.findIdx? p with | some i=>i | none=>-1
theorem Mz {α:Type} [Inhabited α] {p:α→Bool} {l:List α} {r:Nat} (hr:r < l.length) (hp:p (l.getD r default)=true) (hn:∀ j,j < r→p (l.getD j default)=false):RL p l=r:=by
 have:l.findIdx? p=some r:=by
  rw [List.findIdx?_eq_some_iff_getElem]
  refine ⟨hr,?_,fun j hj=>?_⟩
  ·rw [lx81,lx50 hr] at hp; exact hp
  ·have:=hn j hj
   rw [lx81,lx50 (by omega),lx4] at this
   rw [this]; decide
 rw [RL,this]
theorem Vv {α:Type} [Inhabited α] {p:α→Bool} {l:List α} (hn:∀ j,j < l.length→p (l.getD j default)=false):RL p l=-1:=by
 have:l.findIdx? p=none:=by
  rw [List.findIdx?_eq_none_iff]
  intro x hx
  obtain ⟨j,hj,rfl⟩:=lx69 hx
  have:=hn j hj
  rwa [lx81,lx50 hj,lx4] at this
 rw [RL,this]
theorem MB {α:Type} {p:α→Bool} {l:List α}:decide (0≤RL p l)=l.any p:=by
 unfold RL
 cases h:l.findIdx? p with
 | none=>
  rw [List.findIdx?_eq_none_iff] at h
  have:l.any p=false:=by rw [lx95]; intro x hx; rw [h x hx]; decide
  rw [this]; rfl
 | some i=>
  have hi:=List.findIdx?_eq_some_iff_getElem.1 h
  obtain ⟨hl,hp,_⟩:=hi
  have:l.any p=true:=List.any_eq_true.2 ⟨_,lx89 hl,hp⟩
  rw [this,Bw]
  exact ND i
section
variable {P:Program} {s:St} {T:List AV} {H:List Blk}
def bnd (hi:Nat):AV→Option Nat
 | .sc (.int _ n)=>Oz n hi
 | _=>none
theorem JU (d hi:Nat):AS T none d hi=some d:=rfl
theorem OZ (x:Operand) (d hi:Nat):AS T (some x) d hi=bnd hi (ev T x):=by
 simp only [AS,bnd]
 rfl
theorem Am2 {hi:Nat} {k:IntKind} {n:Int} (h0:decide (0≤n)=true) (h1:decide (n≤(hi:Int))=true):bnd hi (.sc (.int k n))=some n.toNat:=by
 simp only [Bw] at h0 h1
 simp [bnd,Oz,h0,h1]
def slG (z:Bool) (es:List AV) (h:Nat):Option Nat→Option AV
 | some l=>some (.vw (z && decide (h=es.length)) ((es.drop l).take (h - l)))
 | none=>none
def slF (T:List AV) (z:Bool) (es:List AV) (lo:Option Operand):Option Nat→Option AV
 | some h=>slG z es h (AS T lo 0 h)
 | none=>none
def slK (id ver lo' h:Nat):Option Nat→Option AV
 | some l=>some (.sl id ver (lo'+l) (h - l))
 | none=>none
def slI (T:List AV) (id ver lo':Nat) (lo:Option Operand):Option Nat→Option AV
 | some h=>slK id ver lo' h (AS T lo 0 h)
 | none=>none
def slH (T:List AV) (de:TyD) (id ver lo' len:Nat) (lo hi:Option Operand):Option Blk→Option AV
 | some B=>if (B.esz == de.sz)=true then slI T id ver lo' lo (AS T hi len len) else none
 | none=>none
def slE (T:List AV) (H:List Blk) (lo hi:Option Operand):AV→Option TyD→Option AV
 | .vw z es,some de=>if Bs de.sz es=true then slF T z es lo (AS T hi es.length es.length) else none
 | .sl id ver lo' len,some de=>slH T de id ver lo' len lo hi (AJ H id ver)
 | _,_=>none
def arC (es:List AV) (off m h:Nat):Option AV→Option AV
 | some e=>if (decide (off+m≤e.cells.length) && decide (m≤1000000) && Bs 1 e.cells)=true then some (.vw false ((e.cells.drop off).take h)) else none
 | none=>none
def arB (es:List AV) (i off m:Nat):Option Nat→Option AV
 | some h=>arC es off m h es[i]?
 | none=>none
def arA (T:List AV) (lo hi:Option Operand) (m:Nat):AV→Option TyD→Option AV
 | .vp es i off,some de=>match lo with
  | none=>if (de.sz == 1)=true then arB es i off m (AS T hi m m) else none
  | some _=>none
 | _,_=>none
def Am3 (P:Program) (t:TypeId):Option Value→Option (Option Value)→Option (Option Value)→Option AV
 | some a,some l,some h=>match Bh P (Instr.sliceAt t a l h none) with
  | some v=>some (LX v)
  | none=>none
 | _,_,_=>none
def slD (P:Program) (t:TypeId) (T:List AV) (H:List Blk) (lo hi:Option Operand) (v:AV):Option TyD→Option AV
 | some d=>match d.el,d.len with
  | some el,none=>slE T H lo hi v (AR P el)
  | some el,some m=>arA T lo hi m v (AR P el)
  | none,none=>Am3 P t (Bp v) (D8 T lo) (D8 T hi)
  | _,_=>none
 | none=>none
theorem RM (t:TypeId) (x:Operand) (lo hi:Option Operand):Ay P s (.slice t x lo hi none)=slD P t s.T s.H lo hi (ev s.T x) (AR P t):=by
 simp only [Ay,slD]
 cases AR P t with
 | none=>rfl
 | some d=>
  simp only
  cases d.el with
  | none=>
   cases d.len with
   | some m=>rfl
   | none=>
    simp only [Am3,show D8 s.T none=some none from rfl]
    generalize D8 s.T lo=a
    generalize D8 s.T hi=b
    cases Bp (ev s.T x) <;> cases a <;> cases b <;> rfl
  | some el=>
   cases d.len with
   | some m=>
    simp only
    cases AR P el with
    | none=>cases ev s.T x <;> rfl
    | some de=>
     cases ev s.T x with
     | vp es i off=>
      cases lo with
      | some lo=>rfl
      | none=>
       simp only [arA]
       cases AS s.T hi m m with
       | none=>
        cases es[i]? with
        | none=>by_cases hz:de.sz=1 <;> simp [hz,arB]
        | some e=>by_cases hz:de.sz=1 <;> simp [hz,arB]
       | some h=>
        cases hei:es[i]? with
        | none=>by_cases hz:de.sz=1 <;> simp [hz,arB,arC,hei]
        | some e=>
         simp only [arB,arC,hei,Ih]
         by_cases hz:de.sz=1
         ·by_cases hc:off+m≤e.cells.length∧m≤1000000∧Bs 1 e.cells=true
          ·rw [if_pos ⟨hz,hc⟩,if_pos (by simp [hz]),if_pos (by simp [hc.1,hc.2.1,hc.2.2])]
          ·rw [if_neg (fun h=>hc h.2),if_pos (by simp [hz]),if_neg]
           intro h'
           simp only [AH,Bw] at h'
           exact hc ⟨h'.1.1,h'.1.2,h'.2⟩
         ·rw [if_neg (fun h=>hz h.1),if_neg (by simpa using hz)]
     | _=>rfl
   | none=>
    simp only
    cases AR P el with
    | none=>cases ev s.T x <;> rfl
    | some de=>
     simp only
     cases ev s.T x with
     | vw z es=>
      simp only [slE,JU]
      by_cases ha:Bs de.sz es=true
      ·rw [if_pos ha]
       cases AS s.T hi es.length es.length with
       | none=>rfl
       | some h=>
        simp only [slF]
        cases AS s.T lo 0 h with
        | none=>rfl
        | some l=>
         simp only [slG]
         rw [if_pos ⟨by rw [Ih]; exact ha,by simp⟩]
         rfl
      ·rw [if_neg ha]
       cases AS s.T hi es.length es.length with
       | none=>rfl
       | some h=>
        simp only
        cases AS s.T lo 0 h with
        | none=>rfl
        | some l=>
         simp only
         rw [if_neg]
         rintro ⟨h1,_⟩
         rw [Ih] at h1
         exact ha h1
     | sl id ver lo' len=>
      simp only [slE,slH]
      cases AJ s.H id ver with
      | none=>rfl
      | some B=>
       simp only [slI,slK]
       by_cases hb:B.esz=de.sz
       ·cases AS s.T hi len len with
        | none=>simp [hb]
        | some h=>cases hl:AS s.T lo 0 h <;> simp [hb,hl]
       ·cases AS s.T hi len len with
        | none=>simp [hb]
        | some h=>cases hl:AS s.T lo 0 h <;> simp [hb,hl]
     | _=>rfl
theorem Am4 (t:TypeId) (lo hi:Option Operand) (v:AV) (ag sz by' z el fl):slD P t T H lo hi v (some ⟨ag,sz,by',z,some el,none,fl⟩)=slE T H lo hi v (AR P el):=rfl
theorem Am5 {lo hi:Option Operand} {z:Bool} {es:List AV} {de:TyD} (h:Bs de.sz es=true):slE T H lo hi (.vw z es) (some de)=slF T z es lo (AS T hi es.length es.length):=by simp [slE,h]
theorem Am6 (lo hi:Option Operand) (id ver lo' len:Nat) (de:TyD):slE T H lo hi (.sl id ver lo' len) (some de)=slH T de id ver lo' len lo hi (AJ H id ver):=rfl
theorem YK {de:TyD} {id ver lo' len:Nat} {lo hi:Option Operand} {B:Blk} (h:(B.esz == de.sz)=true):slH T de id ver lo' len lo hi (some B)=slI T id ver lo' lo (AS T hi len len):=by simp [slH,h]
theorem YL (z:Bool) (es:List AV) (lo:Option Operand) (h:Nat):slF T z es lo (some h)=slG z es h (AS T lo 0 h):=rfl
theorem YM (z:Bool) (es:List AV) (h l:Nat):slG z es h (some l)=some (.vw (z && decide (h=es.length)) ((es.drop l).take (h - l))):=rfl
theorem YN (id ver lo':Nat) (lo:Option Operand) (h:Nat):slI T id ver lo' lo (some h)=slK id ver lo' h (AS T lo 0 h):=rfl
theorem YO (id ver lo' h l:Nat):slK id ver lo' h (some l)=some (.sl id ver (lo'+l) (h - l)):=rfl
end
section
variable {P:Program} {s:St}
def mm (P:Program) (b:Builtin) (ats:Array TypeId) (args:List AV):Option AV:=
 match C7 args with
 | some l=>match Bh P (match b with | .min=>Builtin.min_ ats 0 l.toArray | _=>Builtin.max_ ats 0 l.toArray) with
  | some v=>some (LX v)
  | none=>none
 | none=>none
theorem YP (x y:Operand) (t t':TypeId):Ay P s (.call ⟨.builtin .min,#[x,y],#[t,t']⟩)=mm P .min #[t,t'] [ev s.T x,ev s.T y]:=rfl
theorem YQ (x y:Operand) (t t':TypeId):Ay P s (.call ⟨.builtin .max,#[x,y],#[t,t']⟩)=mm P .max #[t,t'] [ev s.T x,ev s.T y]:=rfl
theorem Am7 (ats:Array TypeId) (k:IntKind) (a b:Int):mm P .min ats [.sc (.int k a),.sc (.int k b)]=some (.sc (.int k (min a b))):=by
 have:Bh P (Builtin.min_ ats 0 #[.int k a,.int k b])=some (.int k (min a b)):=by
  simp [Bh,Builtin.min_,Builtin.min2,Ah,Al,List.foldlM]
  split <;> omega
 simp only [mm,C7,Bp,this]
 rfl
theorem Am8 (ats:Array TypeId) (k:IntKind) (a b:Int):mm P .max ats [.sc (.int k a),.sc (.int k b)]=some (.sc (.int k (max a b))):=by
 have:Bh P (Builtin.max_ ats 0 #[.int k a,.int k b])=some (.int k (max a b)):=by
  simp [Bh,Builtin.max_,Builtin.max2,Ah,Al,List.foldlM]
  split <;> omega
 simp only [mm,C7,Bp,this]
 rfl
end
theorem Uj (k:IntKind) (n:Int):Ax (.int k n)=.sc (.int k n):=rfl
theorem Uk (b:ByteArray):Ax (.string b)=.sc (.string b):=rfl
theorem O0:Ax (.slice none 0 0)=.vw true []:=rfl
theorem RN (k:IntKind) (n:Int):(Value.int k n).cells.size=1:=rfl
theorem RO (cs:List Value):(Value.agg cs.toArray).cells.size=cs.length:=rfl
theorem Ben (x:AV):List.replicate 1 x=[x]:=rfl
theorem Beo (x:AV):List.replicate 2 x=[x,x]:=rfl
theorem Bep (x:AV):List.replicate 3 x=[x,x,x]:=rfl
theorem Beq (x:AV):List.replicate 4 x=[x,x,x,x]:=rfl
theorem Ber (x:AV):List.replicate 7 x=[x,x,x,x,x,x,x]:=rfl
theorem Ul {α:Type} (a:α):[a].dropLast=[]:=rfl
theorem Um {α:Type} (a b:α) (l:List α):(a::b::l).dropLast=a::(b::l).dropLast:=rfl
end Go.SX
