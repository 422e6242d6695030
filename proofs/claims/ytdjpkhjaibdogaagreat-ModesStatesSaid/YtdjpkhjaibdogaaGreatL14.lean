/-
  Joined texts: SXH, SXJ.
  Conditions: none.
-/
import Derived.Test.YtdjpkhjaibdogaaGreatL13
namespace Go.SX
set_option linter.unusedSimpArgs false
set_option linter.unusedVariables false
section
variable {P:Program} {s:St} {H:List Blk} {d:Option Nat}
theorem map_get {α:Type} [Inhabited α] {f:α→AV} {l:List α} {n:Nat} (h:n < l.length):(l.map f)[n]?=some (f (l.getD n default)):=by
 rw [List.getElem?_map,List.getElem?_eq_getElem h,Option.map_some,List.getD_eq_getElem?_getD,List.getElem?_eq_getElem h,Option.getD_some]
theorem map_set {α:Type} (f:α→AV) (l:List α) (n:Nat) (x:α):(l.map f).set n (f x)=(l.set n x).map f:=by
 rw [List.map_set]
theorem stor_sc (v:Value):AV.stor (.sc v)=true:=rfl
theorem stor_ag (cs:List AV):AV.stor (.ag cs)=true:=rfl
theorem stor_vw (z:Bool) (es:List AV):AV.stor (.vw z es)=true:=rfl
theorem stor_sl (a b c d:Nat):AV.stor (.sl a b c d)=true:=rfl
def stS (s:St) (d:Option Nat) (id i:Nat) (B:Blk):Option AV→Option St
 | some e'=>some (St.put { s with H:=s.H.set id { B with els:=B.els.set i e' } } d .un)
 | none=>none
def stE (s:St) (d:Option Nat) (v:AV) (id i off sz:Nat) (B:Blk):Option AV→Option St
 | some e=>if (v.stor && (v.cells.length == sz) && decide (0 < sz))=true then stS s d id i B (e.setC off v.cells) else none
 | none=>none
def stB (s:St) (d:Option Nat) (v:AV) (id i off sz:Nat):Option Blk→Option St
 | some B=>stE s d v id i off sz B B.els[i]?
 | none=>none
def stA (s:St) (d:Option Nat) (v:AV) (dd:TyD):AV→Option St
 | .pt id ver i off=>stB s d v id i off dd.sz (liveB s.H id ver)
 | _=>none
def stD (s:St) (d:Option Nat) (v a:AV):Option TyD→Option St
 | some dd=>stA s d v dd a
 | none=>none
theorem hstep_store (t:TypeId) (a x:Operand):hstep P s (.store t a x) d=stD s d (ev s.T x) (ev s.T a) (tyD P t):=by
 simp only [hstep,stD]
 cases tyD P t with
 | none=>rfl
 | some dd=>
  simp only
  generalize ev s.T a=q
  cases q <;> try rfl
  rename_i id ver i off
  simp only [stA,stB]
  generalize liveB s.H id ver=B
  cases B with
  | none=>rfl
  | some B=>
   simp only [stE]
   generalize B.els[i]?=e
   cases e with
   | none=>rfl
   | some e=>
    simp only [stS]
    by_cases h:(ev s.T x).stor=true∧(ev s.T x).cells.length=dd.sz∧0 < dd.sz
    ·rw [if_pos h,if_pos (by simp [h.1,h.2.1,h.2.2])]
     cases AV.setC e _ (ev s.T x).cells <;> rfl
    ·rw [if_neg h,if_neg]
     intro h'
     simp only [Bool.and_eq_true,beq_iff_eq,decide_eq_true_eq] at h'
     exact h ⟨h'.1.1,h'.1.2,h'.2⟩
theorem stD_some (v a:AV) (dd:TyD):stD s d v a (some dd)=stA s d v dd a:=rfl
theorem stA_pt (v:AV) (dd:TyD) (id ver i off:Nat):stA s d v dd (.pt id ver i off)=stB s d v id i off dd.sz (liveB s.H id ver):=rfl
theorem stB_some (v:AV) (id i off sz:Nat) (B:Blk):stB s d v id i off sz (some B)=stE s d v id i off sz B B.els[i]?:=rfl
theorem stE_some (v:AV) (id i off sz:Nat) (B:Blk) (e:AV) (h:(v.stor && (v.cells.length == sz) && decide (0 < sz))=true):stE s d v id i off sz B (some e)=stS s d id i B (e.setC off v.cells):=by
 simp [stE,h]
theorem stS_some (T:List AV) (H:List Blk) (c id i:Nat) (B:Blk) (e:AV):stS ⟨T,H,c⟩ d id i B (some e)=some (St.put ⟨T,H.set id { B with els:=B.els.set i e },c⟩ d .un):=rfl
def mkS (s:St) (d:Option Nat) (el:Nat) (de:TyD) (z:AV):AV→AV→Option St
 | .sc (.int _ n),.sc (.int _ m)=>if (z.stor && (z.cells.length == de.sz) && decide (0 < de.sz) && decide (0 < de.bytes) && decide (0≤n) && decide (n≤m) && decide (m * de.bytes≤140737488355328))=true then
   some (St.put { s with H:=s.H++[⟨true,s.cnt,el,de.sz,List.replicate n.toNat z,false⟩],cnt:=s.cnt+1 } d (.sl s.H.length s.cnt 0 n.toNat)) else none
 | _,_=>none
def mkZ (s:St) (d:Option Nat) (el:Nat) (de:TyD) (l c:AV):Option Value→Option St
 | some z=>mkS s d el de (ofAgg z) l c
 | none=>none
def mkE (s:St) (d:Option Nat) (el:Nat) (l c:AV):Option TyD→Option St
 | some de=>mkZ s d el de l c de.zero
 | none=>none
def mkD (P:Program) (s:St) (d:Option Nat) (l c:AV):Option TyD→Option St
 | some dd=>match dd.el,dd.len with
  | some el,none=>mkE s d el l c (tyD P el)
  | _,_=>none
 | none=>none
theorem hstep_makeSlice (t:TypeId) (l c:Operand):hstep P s (.makeSlice t l c) d=mkD P s d (ev s.T l) (ev s.T c) (tyD P t):=by
 simp only [hstep,mkD]
 cases tyD P t with
 | none=>rfl
 | some dd=>
  simp only
  cases dd.el with
  | none=>rfl
  | some el=>
   cases dd.len with
   | some _=>rfl
   | none=>
    simp only [mkE]
    cases tyD P el with
    | none=>rfl
    | some de=>
     simp only [mkZ]
     cases hz:de.zero with
     | none=>rfl
     | some z=>
      simp only [mkS]
      generalize ev s.T l=u
      generalize ev s.T c=v
      cases u <;> try rfl
      rename_i u
      cases u <;> try rfl
      cases v <;> try rfl
      rename_i v
      cases v <;> try rfl
      rename_i k n k' m
      simp only
      by_cases h:(ofAgg z).stor=true∧(ofAgg z).cells.length=de.sz∧0 < de.sz∧0 < de.bytes∧0≤n∧n≤m∧m * de.bytes≤140737488355328
      ·rw [if_pos h,if_pos (by simp [h.1,h.2.1,h.2.2.1,h.2.2.2.1,h.2.2.2.2.1,h.2.2.2.2.2.1,h.2.2.2.2.2.2])]
      ·rw [if_neg h,if_neg]
       intro h'
       simp only [Bool.and_eq_true,beq_iff_eq,decide_eq_true_eq] at h'
       exact h ⟨h'.1.1.1.1.1.1,h'.1.1.1.1.1.2,h'.1.1.1.1.2,h'.1.1.1.2,h'.1.1.2,h'.1.2,h'.2⟩
theorem mkD_sl (l c:AV) (ag sz by' z el fl):mkD P s d l c (some ⟨ag,sz,by',z,some el,none,fl⟩)=mkE s d el l c (tyD P el):=rfl
theorem mkE_some (el:Nat) (l c:AV) (de:TyD):mkE s d el l c (some de)=mkZ s d el de l c de.zero:=rfl
theorem mkZ_some (el:Nat) (de:TyD) (l c:AV) (z:Value):mkZ s d el de l c (some z)=mkS s d el de (ofAgg z) l c:=rfl
theorem mkS_ok (T:List AV) (H:List Blk) (cn el:Nat) (de:TyD) (z:AV) (k k':IntKind) (n m:Int)
  (h:(z.stor && (z.cells.length == de.sz) && decide (0 < de.sz) && decide (0 < de.bytes) && decide (0≤n) && decide (n≤m) && decide (m * de.bytes≤140737488355328))=true):
  mkS ⟨T,H,cn⟩ d el de z (.sc (.int k n)) (.sc (.int k' m))=some (St.put ⟨T,H++[⟨true,cn,el,de.sz,List.replicate n.toNat z,false⟩],cn+1⟩ d (.sl H.length cn 0 n.toNat)):=by
 simp only [mkS,h,if_true]
def blF (s:St) (d:Option Nat) (el len:Nat) (de:TyD) (z:AV):Option (List AV)→Option St
 | some es=>if (z.stor && (z.cells.length == de.sz) && decide (0 < de.sz) && decide (len * de.sz≤16777216))=true then
   some (St.put { s with H:=s.H++[⟨true,s.cnt,el,de.sz,es,true⟩],cnt:=s.cnt+1 } d (.sl s.H.length s.cnt 0 len)) else none
 | none=>none
def blZ (s:St) (d:Option Nat) (el len:Nat) (de:TyD) (l:List (Nat × AV)):Option Value→Option St
 | some z=>blF s d el len de (ofAgg z) (fillE de.sz (List.replicate len (ofAgg z)) l)
 | none=>none
def blE (s:St) (d:Option Nat) (el len:Nat) (l:List (Nat × AV)):Option TyD→Option St
 | some de=>blZ s d el len de l de.zero
 | none=>none
def blD (P:Program) (s:St) (d:Option Nat) (len:Nat) (l:List (Nat × AV)):Option TyD→Option St
 | some dd=>match dd.el,dd.len with
  | some el,none=>blE s d el len l (tyD P el)
  | _,_=>none
 | none=>none
theorem hstep_buildSlice (t:TypeId) (len:Nat) (ps:Array (Nat × Operand)):hstep P s (.buildSlice t len ps) d=blD P s d len (ps.toList.map fun p=>(p.1,ev s.T p.2)) (tyD P t):=by
 simp only [hstep,blD]
 cases tyD P t with
 | none=>rfl
 | some dd=>
  simp only
  cases dd.el with
  | none=>rfl
  | some el=>
   cases dd.len with
   | some _=>rfl
   | none=>
    simp only [blE]
    cases tyD P el with
    | none=>rfl
    | some de=>
     simp only [blZ]
     cases hz:de.zero with
     | none=>rfl
     | some z=>
      simp only
      generalize fillE de.sz (List.replicate len (ofAgg z)) _=q
      cases q with
      | none=>rfl
      | some es=>
       simp only [blF]
       by_cases h:(ofAgg z).stor=true∧(ofAgg z).cells.length=de.sz∧0 < de.sz∧len * de.sz≤16777216
       ·rw [if_pos h,if_pos (by simp [h.1,h.2.1,h.2.2.1,h.2.2.2])]
       ·rw [if_neg h,if_neg]
        intro h'
        simp only [Bool.and_eq_true,beq_iff_eq,decide_eq_true_eq] at h'
        exact h ⟨h'.1.1.1,h'.1.1.2,h'.1.2,h'.2⟩
theorem blD_sl (len:Nat) (l:List (Nat × AV)) (ag sz by' z el fl):blD P s d len l (some ⟨ag,sz,by',z,some el,none,fl⟩)=blE s d el len l (tyD P el):=rfl
theorem blE_some (el len:Nat) (l:List (Nat × AV)) (de:TyD):blE s d el len l (some de)=blZ s d el len de l de.zero:=rfl
theorem blZ_some (el len:Nat) (de:TyD) (l:List (Nat × AV)) (z:Value):blZ s d el len de l (some z)=blF s d el len de (ofAgg z) (fillE de.sz (List.replicate len (ofAgg z)) l):=rfl
theorem blF_some (T:List AV) (H:List Blk) (cn el len:Nat) (de:TyD) (z:AV) (es:List AV) (h:(z.stor && (z.cells.length == de.sz) && decide (0 < de.sz) && decide (len * de.sz≤16777216))=true):
  blF ⟨T,H,cn⟩ d el len de z (some es)=some (St.put ⟨T,H++[⟨true,cn,el,de.sz,es,true⟩],cn+1⟩ d (.sl H.length cn 0 len)):=by
 simp only [blF,h,if_true]
def apX (s:St) (d:Option Nat) (el:Nat) (de:TyD) (ys:List AV) (H1:List Blk):AV→Option St
 | .vw true []=>if decide (ys.length * de.bytes≤140737488355328)=true then
   some (St.put { s with H:=H1++[⟨true,s.cnt,el,de.sz,ys,false⟩],cnt:=s.cnt+1 } d (.sl H1.length s.cnt 0 ys.length)) else none
 | .sl id ver lo len=>match liveB H1 id ver with
  | some B=>if ((B.esz == de.sz) && (B.ty == el) && decide ((len+ys.length) * de.bytes≤140737488355328))=true then
    some (St.put { s with H:=H1.set id ⟨true,s.cnt,el,de.sz,(B.els.drop lo).take len++ys,false⟩,cnt:=s.cnt+1 } d (.sl id s.cnt 0 (len+ys.length))) else none
  | none=>none
 | _=>none
def apY (s:St) (d:Option Nat) (el:Nat) (de:TyD) (x y:AV):Option Value→Option (List AV)→Option St
 | some z,some ys=>if (decide (0 < de.sz) && decide (0 < de.bytes) && (z.cells.size == de.sz) && allSz de.sz ys)=true then apX s d el de ys (popTmp s.H y) x else none
 | _,_=>none
def apE (s:St) (d:Option Nat) (el:Nat) (x y:AV) (ys:Option (List AV)):Option TyD→Option St
 | some de=>apY s d el de x y de.zero ys
 | none=>none
def apD (P:Program) (s:St) (d:Option Nat) (x y:AV) (ys:Option (List AV)):Option TyD→Option St
 | some dd=>match dd.el,dd.len with
  | some el,none=>apE s d el x y ys (tyD P el)
  | _,_=>none
 | none=>none
theorem allSz_eq (sz:Nat):∀ es:List AV,es.all (fun e=>e.cells.length=sz)=allSz sz es
 | []=>rfl
 | e::r=>by rw [List.all_cons,allSz_eq sz r,allSz]
theorem hstep_append (t:TypeId) (x y:Operand):hstep P s (.call ⟨.builtin .append,#[x,y],#[t,t]⟩) d=apD P s d (ev s.T x) (ev s.T y) (elsA s.H (ev s.T y)) (tyD P t):=by
 simp only [hstep,apD,if_true]
 cases tyD P t with
 | none=>rfl
 | some dd=>
  simp only
  cases dd.el with
  | none=>rfl
  | some el=>
   cases dd.len with
   | some _=>rfl
   | none=>
    simp only [apE]
    cases tyD P el with
    | none=>rfl
    | some de=>
     simp only [apY]
     cases de.zero with
     | none=>rfl
     | some z=>
      cases elsA s.H (ev s.T y) with
      | none=>rfl
      | some ys=>
       simp only
       rw [allSz_eq]
       by_cases h:0 < de.sz∧0 < de.bytes∧z.cells.size=de.sz∧allSz de.sz ys=true
       ·have h1:(decide (0 < de.sz) && decide (0 < de.bytes) && (z.cells.size == de.sz) && allSz de.sz ys)=true:=by simp [h.1,h.2.1,h.2.2.1,h.2.2.2]
        rw [if_pos h,if_pos h1]
        generalize ev s.T x=q
        cases q with
        | sl id ver lo len=>
         simp only [apX]
         cases liveB (popTmp s.H (ev s.T y)) id ver with
         | none=>rfl
         | some B=>
          simp only
          by_cases h2:B.esz=de.sz∧B.ty=el∧(len+ys.length) * de.bytes≤140737488355328
          ·have h3:((B.esz == de.sz) && (B.ty == el) && decide ((len+ys.length) * de.bytes≤140737488355328))=true:=by simp [h2.1,h2.2.1,h2.2.2]
           rw [if_pos h2,if_pos h3]
          ·rw [if_neg h2,if_neg]
           intro h'
           simp only [Bool.and_eq_true,beq_iff_eq,decide_eq_true_eq] at h'
           exact h2 ⟨h'.1.1,h'.1.2,h'.2⟩
        | vw z es=>cases z <;> cases es <;> simp [apX]
        | _=>rfl
       ·rw [if_neg h,if_neg]
        intro h'
        simp only [Bool.and_eq_true,beq_iff_eq,decide_eq_true_eq] at h'
        exact h ⟨h'.1.1.1,h'.1.1.2,h'.1.2,h'.2⟩
theorem apD_sl (x y:AV) (ys:Option (List AV)) (ag sz by' z el fl):apD P s d x y ys (some ⟨ag,sz,by',z,some el,none,fl⟩)=apE s d el x y ys (tyD P el):=rfl
theorem apE_some (el:Nat) (x y:AV) (ys:Option (List AV)) (de:TyD):apE s d el x y ys (some de)=apY s d el de x y de.zero ys:=rfl
theorem apY_some (el:Nat) (de:TyD) (x y:AV) (z:Value) (ys:List AV) (h:(decide (0 < de.sz) && decide (0 < de.bytes) && (z.cells.size == de.sz) && allSz de.sz ys)=true):
  apY s d el de x y (some z) (some ys)=apX s d el de ys (popTmp s.H y) x:=by
 simp only [apY,h,if_true]
theorem apX_nil (T:List AV) (H:List Blk) (c el:Nat) (de:TyD) (ys:List AV) (H1:List Blk) (h:decide (ys.length * de.bytes≤140737488355328)=true):
  apX ⟨T,H,c⟩ d el de ys H1 (.vw true [])=some (St.put ⟨T,H1++[⟨true,c,el,de.sz,ys,false⟩],c+1⟩ d (.sl H1.length c 0 ys.length)):=by
 simp only [apX,h,if_true]
def apB (s:St) (d:Option Nat) (el:Nat) (de:TyD) (ys:List AV) (H1:List Blk) (id lo len:Nat):Option Blk→Option St
 | some B=>if ((B.esz == de.sz) && (B.ty == el) && decide ((len+ys.length) * de.bytes≤140737488355328))=true then
    some (St.put { s with H:=H1.set id ⟨true,s.cnt,el,de.sz,(B.els.drop lo).take len++ys,false⟩,cnt:=s.cnt+1 } d (.sl id s.cnt 0 (len+ys.length))) else none
 | none=>none
theorem apX_sl (el:Nat) (de:TyD) (ys:List AV) (H1:List Blk) (id ver lo len:Nat):apX s d el de ys H1 (.sl id ver lo len)=apB s d el de ys H1 id lo len (liveB H1 id ver):=by
 simp only [apX,apB]
theorem apB_some (T:List AV) (H:List Blk) (c el:Nat) (de:TyD) (ys:List AV) (H1:List Blk) (id lo len:Nat) (B:Blk)
  (h:((B.esz == de.sz) && (B.ty == el) && decide ((len+ys.length) * de.bytes≤140737488355328))=true):
  apB ⟨T,H,c⟩ d el de ys H1 id lo len (some B)=some (St.put ⟨T,H1.set id ⟨true,c,el,de.sz,(B.els.drop lo).take len++ys,false⟩,c+1⟩ d (.sl id c 0 (len+ys.length))):=by
 simp only [apB,h,if_true]
def alZ (s:St) (d:Option Nat) (t:Nat) (z:AV):Option St:=
 if z.stor=true then some (St.put { s with H:=s.H++[⟨true,s.cnt,t,z.cells.length,[z],false⟩],cnt:=s.cnt+1 } d (.pt s.H.length s.cnt 0 0)) else none
def alO (s:St) (d:Option Nat) (t:Nat):Option Value→Option St
 | some z=>alZ s d t (ofAgg z)
 | none=>none
def alD (s:St) (d:Option Nat) (t:Nat):Option TyD→Option St
 | some dd=>alO s d t dd.zero
 | none=>none
theorem hstep_alloc (t:TypeId):hstep P s (.alloc t) d=alD s d t (tyD P t):=by
 simp only [hstep,alD,alO,alZ]
 cases tyD P t with
 | none=>rfl
 | some dd=>simp only; cases dd.zero <;> rfl
theorem alD_some (t:Nat) (dd:TyD):alD s d t (some dd)=alO s d t dd.zero:=rfl
theorem alO_some (t:Nat) (z:Value):alO s d t (some z)=alZ s d t (ofAgg z):=rfl
theorem alZ_ok (T:List AV) (H:List Blk) (c t:Nat) (z:AV) (h:z.stor=true):alZ ⟨T,H,c⟩ d t z=some (St.put ⟨T,H++[⟨true,c,t,z.cells.length,[z],false⟩],c+1⟩ d (.pt H.length c 0 0)):=by
 simp only [alZ,h,if_true]
theorem hstep_box (t:TypeId) (x:Operand):hstep P s (.box t x) d=alZ s d t (ev s.T x):=rfl
theorem elsA_sc (a:Option Addr) (c:Nat):elsA H (.sc (.slice a 0 c))=some []:=rfl
theorem elsA_vw (z:Bool) (es:List AV):elsA H (.vw z es)=if es.all (·.noref)=true then some es else none:=rfl
theorem elsA_vwn (z:Bool) (es:List AV) (h:norefs es=true):elsA H (.vw z es)=some es:=by
 have:∀ l:List AV,norefs l=true→l.all (·.noref)=true:=by
  intro l
  induction l with
  | nil=>intro _; rfl
  | cons a r ih=>
   intro h
   simp only [norefs,Bool.and_eq_true] at h
   simp [h.1,ih h.2]
 rw [elsA_vw,if_pos (this es h)]
theorem norefs_map {α:Type} {f:α→AV} (h:∀ x,(f x).noref=true):∀ l:List α,norefs (l.map f)=true
 | []=>by simp [norefs]
 | x::r=>by simp [norefs,h x,norefs_map h r]
def elL (lo len:Nat):Option Blk→Option (List AV)
 | some B=>some ((B.els.drop lo).take len)
 | none=>none
theorem elsA_sl (id ver lo len:Nat):elsA H (.sl id ver lo len)=elL lo len (liveB H id ver):=by
 simp only [elsA,elL]; cases liveB H id ver <;> rfl
theorem elL_some (lo len:Nat) (B:Blk):elL lo len (some B)=some ((B.els.drop lo).take len):=rfl
def ppB (H:List Blk) (id:Nat):Option Blk→List Blk
 | some B=>if B.tmp=true∧id+1=H.length then H.dropLast else H
 | none=>H
theorem popTmp_vw (z:Bool) (es:List AV):popTmp H (.vw z es)=H:=rfl
theorem popTmp_sl (id ver lo len:Nat):popTmp H (.sl id ver lo len)=ppB H id H[id]?:=by
 simp only [popTmp,ppB]
 cases H[id]? <;> rfl
theorem ppB_some (id:Nat) (B:Blk):ppB H id (some B)=if B.tmp=true∧id+1=H.length then H.dropLast else H:=rfl
def lvB (ver:Nat):Option Blk→Option Blk
 | some B=>if B.live=true∧B.ver=ver then some B else none
 | none=>none
theorem liveB_eq (id ver:Nat):liveB H id ver=lvB ver H[id]?:=by
 simp only [liveB,lvB]
 cases H[id]? <;> rfl
theorem lvB_mk (ver v ty esz:Nat) (els:List AV) (tmp:Bool):lvB ver (some ⟨true,v,ty,esz,els,tmp⟩)=if v=ver then some ⟨true,v,ty,esz,els,tmp⟩ else none:=by
 simp [lvB]
end
end Go.SX

namespace Go.SX
set_option linter.unusedSimpArgs false
set_option linter.unusedVariables false
open Go.RowKit (Below)
mutual
theorem borrowX_ok {w X X0 hc} (hr:HR w X hc) (hx:∀ b,X0 b→X b) (ho:∀ b,Own hc b→¬ X0 b):∀ (a:AV) {v:Value},VR w X (some hc) a v→VR w X0 (some hc0) (borrow hc.H a) v
 | .sc x,v,h=>by cases h with | sc h=>exact .sc h
 | .un,v,h=>by cases h; exact .un
 | .jk,v,_=>.jk
 | .vw z es,v,h=>by
  cases h with
  | vw0 hz hm=>exact .vw0 hz hm
  | vw1 f hne hX hb hcap hz hmax hsz hcl hv=>exact .vw1 f hne (fun h=>hX (hx _ h)) hb hcap hz hmax hsz hcl (fun i e j a h1 h2=>(hv i e j a h1 h2).antiX hx)
 | .vp es i off,v,h=>by
  cases h with
  | vp f hX hb hsz hcl hv=>exact .vp f (fun h=>hX (hx _ h)) hb hsz hcl (fun i e j a h1 h2=>(hv i e j a h1 h2).antiX hx)
 | .ag cs,v,h=>by
  cases h with
  | ag hl h1 h2=>
   have:=borrowsX_ok hr hx ho cs ⟨hl,h1⟩
   exact .ag this.1 this.2 h2
 | .tu cs,v,h=>by
  cases h with
  | tu hl h1=>
   have:=borrowsX_ok hr hx ho cs ⟨hl,h1⟩
   exact .tu this.1 this.2
 | .fn f cs,v,h=>by
  cases h with
  | fn hl h1=>
   have:=borrowsX_ok hr hx ho cs ⟨hl,h1⟩
   exact .fn this.1 this.2
 | .pt id ver i off,v,h=>by
  simp only [borrow]
  split
  ·rename_i B hl
   obtain ⟨b,base,h1,h2,h3,⟨cs,h4⟩,h5⟩:=pt_live hr h hl
   obtain ⟨g1,g2,g3⟩:=liveB_some hl
   subst h2
   refine .vp (fun i j=>(w.cell? ⟨b,base+i * B.esz+j,none⟩).getD undef) (ho b ⟨id,B,base,g1,g2,h1⟩) (hr.lt b h3) ?_ ?_ ?_
   ·intro e he
    obtain ⟨i,hi⟩:=List.mem_iff_getElem?.1 he
    exact (h5 i e hi).1
   ·intro i j hi hj
    obtain ⟨q1,q2⟩:=h5 i B.els[i] (by simp [hi])
    obtain ⟨c,e1,e2,e3⟩:=q2 j (B.els[i].cells[j]'(by omega)) (by simp)
    rw [e1]
    exact ⟨rfl,e2⟩
   ·intro i e j a he ha
    obtain ⟨q1,q2⟩:=h5 i e he
    obtain ⟨c,e1,e2,e3⟩:=q2 j a ha
    rw [e1]
    exact e3.close.antiX hx
  ·exact .jk
 | .sl id ver lo len,v,h=>by
  simp only [borrow]
  split
  ·rename_i B hl
   obtain ⟨g1,g2,g3⟩:=liveB_some hl
   cases h with
   | sl q1 q2=>
    obtain ⟨r1,r2⟩:=q2 _ rfl
    obtain ⟨r3,r4⟩:=r2 B g1 g2 g3
    have hlen:((B.els.drop lo).take len).length=len:=by simp; omega
    have hB:=hr.blk id B g1 g2
    rcases r4 with ⟨r4,p,hp⟩ | ⟨b,base,cap,nn,hloc,k1,k2,k3,k4,k5⟩
    ·subst r4; subst hp
     rw [List.take_zero]
     exact .vw0 (fun h=>by cases h) (Nat.zero_le _)
    ·have hB2:=hB.2.2
     rw [hloc] at hB2
     obtain ⟨m1,⟨cs,m2⟩,m3⟩:=hB2
     subst k1
     by_cases h0:len=0
     ·subst h0
      rw [List.take_zero]
      exact .vw0 (fun h=>by cases h) k3
     ·have hne:(B.els.drop lo).take len≠[]:=by intro e; rw [e] at hlen; simp at hlen; omega
      have hget:∀ i e,((B.els.drop lo).take len)[i]?=some e→B.els[lo+i]?=some e:=by
       intro i e he
       rw [List.getElem?_take] at he
       split at he
       ·rwa [List.getElem?_drop] at he
       ·cases he
      have:=VR.vw1 (w:=w) (X:=X0) (o:=some hc0) (z:=false) (es:=(B.els.drop lo).take len) (b:=b) (base:=base+lo * B.esz) (cap:=cap) (esz:=B.esz)
       (fun i j=>(w.cell? ⟨b,base+lo * B.esz+i * B.esz+j,none⟩).getD undef) hne (ho b ⟨id,B,base,g1,g2,hloc⟩) (hr.lt b m1) (by rw [hlen]; exact k2) (fun h=>by cases h) k3
       (fun e he=>by
        obtain ⟨i,hi⟩:=List.mem_iff_getElem?.1 he
        exact (m3 _ e (hget i e hi)).1)
       (fun i j hi hj=>by
        have he:((B.els.drop lo).take len)[i]?=some ((B.els.drop lo).take len)[i]:=List.getElem?_eq_getElem hi
        obtain ⟨q1,q2⟩:=m3 _ _ (hget i _ he)
        obtain ⟨c,e1,e2,e3⟩:=q2 j (((B.els.drop lo).take len)[i].cells[j]'(by omega)) (by simp)
        rw [Nat.add_mul,←Nat.add_assoc] at e1
        rw [e1]
        exact ⟨rfl,e2⟩)
       (fun i e j a he ha=>by
        obtain ⟨q1,q2⟩:=m3 _ e (hget i e he)
        obtain ⟨c,e1,e2,e3⟩:=q2 j a ha
        rw [Nat.add_mul,←Nat.add_assoc] at e1
        rw [e1]
        exact e3.close.antiX hx)
      rw [hlen] at this
      exact this
  ·exact .jk
theorem borrowsX_ok {w X X0 hc} (hr:HR w X hc) (hx:∀ b,X0 b→X b) (ho:∀ b,Own hc b→¬ X0 b):∀ (as:List AV) {vs:List Value},VL w X (some hc) as vs→VL w X0 (some hc0) (borrows hc.H as) vs
 | [],vs,h=>by rw [h.unnil]; exact .nil
 | a::r,vs,h=>by
  obtain ⟨v,vs',rfl,h1,h2⟩:=h.uncons
  exact .cons (borrowX_ok hr hx ho a h1) (borrowsX_ok hr hx ho r h2)
end
def VSpec (P:Program) (f:FuncId) (args:List AV) (r:AV):Prop:=
 Callable P f∧r.noref=true∧∀ (w:World) (X0:Nat→Prop) (cargs:Array Value),(∀ b,X0 b→b < w.heap.size)→VL w X0 (some hc0) args cargs.toList→
  Calls P f cargs w fun e w'=>∃ c,e=.returned c∧VR w' X0 (some hc0) r c∧Below w.heap.size w w'
theorem VL.close {w X o as vs} (h:VL w X o as vs):VL w X none as vs:=⟨h.1,fun i a v h1 h2=>(h.2 i a v h1 h2).close⟩
theorem hspec_of_v {P:Program} {f:FuncId} {args:List AV} {r:AV} (hv:VSpec P f args r) (hn:norefs args=true) (H:List Blk) (cnt:Nat):HSpec P f args H cnt r H cnt:=by
 obtain ⟨h1,h2,h3⟩:=hv
 refine ⟨h1,fun w X loc cargs hr hl=>?_⟩
 refine (h3 w X cargs hr.lt (norefs_ok _ hn hl.close)).mono ?_
 rintro e w' ⟨c,rfl,g1,g2⟩
 exact ⟨X,loc,c,rfl,hr.below g2,noref_ok _ h2 g1.close,evo_below g2 X _⟩
def VOk (P:Program) (g:Nat) (F:List AV→Option AV):Prop:=∀ args r,F args=some r→VSpec P g args r
inductive VOks (P:Program):List (Nat × (List AV→Option AV))→Prop
 | nil:VOks P []
 | cons {g F r} (h:VOk P g F) (t:VOks P r):VOks P ((g,F)::r)
def hcV (H:List Blk) (cnt:Nat):Bool→Option AV→Option (AV × List Blk × Nat)
 | true,some r=>some (r,H,cnt)
 | _,_=>none
theorem hcV_some (H:List Blk) (cnt:Nat) (r:AV):hcV H cnt true (some r)=some (r,H,cnt):=rfl
def vEnv (l lv:List (Nat × (List AV→Option AV))):Env:=⟨pin l,pl l,fun g args H cnt=>hcV H cnt (norefs args) (pl lv g args),false,fun _=>none,fun _=>false⟩
theorem vEnv_ok {P:Program} {l lv:List (Nat × (List AV→Option AV))} (h:POks P l) (hv:VOks P lv):EnvOk P (vEnv l lv) where
 p:=(pEnv_ok h).p
 h f args H cnt r H' cnt' he:=by
  simp only [vEnv] at he
  cases hn:norefs args with
  | false=>rw [hn] at he; simp [hcV] at he
  | true=>
   rw [hn] at he
   cases hp:pl lv f args with
   | none=>rw [hp] at he; simp [hcV] at he
   | some q=>
    rw [hp] at he
    simp only [hcV,Option.some.injEq,Prod.mk.injEq] at he
    obtain ⟨rfl,rfl,rfl⟩:=he
    refine hspec_of_v ?_ hn H cnt
    induction hv with
    | nil=>simp [pl] at hp
    | @cons g F l h t ih=>
     simp only [pl] at hp
     split at hp
     ·rename_i hh; subst hh; exact h args q hp
     ·exact ih hp
section
variable {P:Program} {E:Env} {n0:Nat} {rs:List ResultVar} {R:AV→St→Prop}
end
end Go.SX
