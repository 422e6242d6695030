/-
  Joined texts: SXM, SXN, SXO.
  Conditions: none.
-/
import Derived.Test.YtdjpkhjaibdogaaGreatL14
import Derived.Test.YtdjpkhjaibdogaaGreatL13
namespace Go.SX
set_option linter.unusedSimpArgs false
set_option linter.unusedVariables false
noncomputable def mkF {α:Type} (q:α→Prop) (enc:α→List AV) (out:α→AV) (args:List AV):Option AV:=
 open Classical in if h:∃ x,q x∧enc x=args then some (out (Classical.choose h)) else none
theorem mkF_eq {α:Type} {q:α→Prop} {enc:α→List AV} {out:α→AV} (x:α) (hq:q x) (hi:∀ y,enc y=enc x→y=x):mkF q enc out (enc x)=some (out x):=by
 unfold mkF
 have h:∃ y,q y∧enc y=enc x:=⟨x,hq,rfl⟩
 rw [dif_pos h,hi _ (Classical.choose_spec h).2]
theorem mkF_inv {α:Type} {q:α→Prop} {enc:α→List AV} {out:α→AV} {args:List AV} {r:AV} (h:mkF q enc out args=some r):∃ x,q x∧enc x=args∧out x=r:=by
 unfold mkF at h
 split at h
 ·rename_i hx
  injection h with h
  exact ⟨_,(Classical.choose_spec hx).1,(Classical.choose_spec hx).2,h⟩
 ·cases h
theorem pok_mk {P:Program} {g:Nat} {α:Type} {q:α→Prop} {enc:α→List AV} {out:α→AV} (h:∀ x,q x→PSpec P g (enc x) (out x)):POk P g (mkF q enc out):=by
 intro args r hr
 obtain ⟨x,hq,rfl,rfl⟩:=mkF_inv hr
 exact h x hq
theorem vok_mk {P:Program} {g:Nat} {α:Type} {q:α→Prop} {enc:α→List AV} {out:α→AV} (h:∀ x,q x→VSpec P g (enc x) (out x)):VOk P g (mkF q enc out):=by
 intro args r hr
 obtain ⟨x,hq,rfl,rfl⟩:=mkF_inv hr
 exact h x hq
def kA (k:IntKind) (n:Int):AV:=.sc (.int k n)
def bA (b:Bool):AV:=.sc (.bool b)
theorem kA_eq (k:IntKind) (n:Int):kA k n=.sc (.int k n):=rfl
theorem bA_eq (b:Bool):bA b=.sc (.bool b):=rfl
theorem kA_inj {k:IntKind} {a b:Int} (h:kA k a=kA k b):a=b:=by unfold kA at h; injection h with h; injection h with _ h
theorem map_inj {α:Type} {f:α→AV} (hf:∀ a b,f a=f b→a=b):∀ {l m:List α},l.map f=m.map f→l=m
 | [],[],_=>rfl
 | a::l,b::m,h=>by
  simp only [List.map_cons,List.cons.injEq] at h
  rw [hf a b h.1,map_inj hf h.2]
 | [],b::m,h=>by simp at h
 | a::l,[],h=>by simp at h
theorem allSz_kA (k:IntKind) (l:List Int):allSz 1 (l.map (kA k))=true:=allSz_map (f:=kA k) (fun _=>rfl) l
theorem ldV_mapN {α:Type} [Inhabited α] {f:α→AV} {l:List α} {n:Nat} {d:TyD} {off:Nat} (h:decide (n < l.length)=true):ldV d off (l.map f)[n]?=ldW (takeT d (f (l.getD n default)).cells off):=by
 rw [map_get (by simpa using h)]; rfl
def idxF {α:Type} (p:α→Bool) (l:List α):Int:=match l.findIdx? p with | some i=>i | none=>-1
theorem idxF_at {α:Type} [Inhabited α] {p:α→Bool} {l:List α} {r:Nat} (hr:r < l.length) (hp:p (l.getD r default)=true) (hn:∀ j,j < r→p (l.getD j default)=false):idxF p l=r:=by
 have:l.findIdx? p=some r:=by
  rw [List.findIdx?_eq_some_iff_getElem]
  refine ⟨hr,?_,fun j hj=>?_⟩
  ·rw [List.getD_eq_getElem?_getD,List.getElem?_eq_getElem hr] at hp; exact hp
  ·have:=hn j hj
   rw [List.getD_eq_getElem?_getD,List.getElem?_eq_getElem (by omega),Option.getD_some] at this
   rw [this]; decide
 rw [idxF,this]
theorem idxF_no {α:Type} [Inhabited α] {p:α→Bool} {l:List α} (hn:∀ j,j < l.length→p (l.getD j default)=false):idxF p l=-1:=by
 have:l.findIdx? p=none:=by
  rw [List.findIdx?_eq_none_iff]
  intro x hx
  obtain ⟨j,hj,rfl⟩:=List.getElem_of_mem hx
  have:=hn j hj
  rwa [List.getD_eq_getElem?_getD,List.getElem?_eq_getElem hj,Option.getD_some] at this
 rw [idxF,this]
theorem idxF_any {α:Type} {p:α→Bool} {l:List α}:decide (0≤idxF p l)=l.any p:=by
 unfold idxF
 cases h:l.findIdx? p with
 | none=>
  rw [List.findIdx?_eq_none_iff] at h
  have:l.any p=false:=by rw [List.any_eq_false]; intro x hx; rw [h x hx]; decide
  rw [this]; rfl
 | some i=>
  have hi:=List.findIdx?_eq_some_iff_getElem.1 h
  obtain ⟨hl,hp,_⟩:=hi
  have:l.any p=true:=List.any_eq_true.2 ⟨_,List.getElem_mem hl,hp⟩
  rw [this,decide_eq_true_eq]
  exact Int.natCast_nonneg i
section
variable {P:Program} {s:St} {T:List AV} {H:List Blk}
def bnd (hi:Nat):AV→Option Nat
 | .sc (.int _ n)=>bound n hi
 | _=>none
theorem boundO_none (d hi:Nat):boundO T none d hi=some d:=rfl
theorem boundO_some (x:Operand) (d hi:Nat):boundO T (some x) d hi=bnd hi (ev T x):=by
 simp only [boundO,bnd]
 rfl
theorem bnd_ok {hi:Nat} {k:IntKind} {n:Int} (h0:decide (0≤n)=true) (h1:decide (n≤(hi:Int))=true):bnd hi (.sc (.int k n))=some n.toNat:=by
 simp only [decide_eq_true_eq] at h0 h1
 simp [bnd,bound,h0,h1]
def slG (z:Bool) (es:List AV) (h:Nat):Option Nat→Option AV
 | some l=>some (.vw (z && decide (h=es.length)) ((es.drop l).take (h - l)))
 | none=>none
def slF (T:List AV) (z:Bool) (es:List AV) (lo:Option Operand):Option Nat→Option AV
 | some h=>slG z es h (boundO T lo 0 h)
 | none=>none
def slK (id ver lo' h:Nat):Option Nat→Option AV
 | some l=>some (.sl id ver (lo'+l) (h - l))
 | none=>none
def slI (T:List AV) (id ver lo':Nat) (lo:Option Operand):Option Nat→Option AV
 | some h=>slK id ver lo' h (boundO T lo 0 h)
 | none=>none
def slH (T:List AV) (de:TyD) (id ver lo' len:Nat) (lo hi:Option Operand):Option Blk→Option AV
 | some B=>if (B.esz == de.sz)=true then slI T id ver lo' lo (boundO T hi len len) else none
 | none=>none
def slE (T:List AV) (H:List Blk) (lo hi:Option Operand):AV→Option TyD→Option AV
 | .vw z es,some de=>if allSz de.sz es=true then slF T z es lo (boundO T hi es.length es.length) else none
 | .sl id ver lo' len,some de=>slH T de id ver lo' len lo hi (liveB H id ver)
 | _,_=>none
def arC (es:List AV) (off m h:Nat):Option AV→Option AV
 | some e=>if (decide (off+m≤e.cells.length) && decide (m≤1000000) && allSz 1 e.cells)=true then some (.vw false ((e.cells.drop off).take h)) else none
 | none=>none
def arB (es:List AV) (i off m:Nat):Option Nat→Option AV
 | some h=>arC es off m h es[i]?
 | none=>none
def arA (T:List AV) (lo hi:Option Operand) (m:Nat):AV→Option TyD→Option AV
 | .vp es i off,some de=>match lo with
  | none=>if (de.sz == 1)=true then arB es i off m (boundO T hi m m) else none
  | some _=>none
 | _,_=>none
def strS (P:Program) (t:TypeId):Option Value→Option (Option Value)→Option (Option Value)→Option AV
 | some a,some l,some h=>match spure P (Instr.sliceAt t a l h none) with
  | some v=>some (ofV v)
  | none=>none
 | _,_,_=>none
def slD (P:Program) (t:TypeId) (T:List AV) (H:List Blk) (lo hi:Option Operand) (v:AV):Option TyD→Option AV
 | some d=>match d.el,d.len with
  | some el,none=>slE T H lo hi v (tyD P el)
  | some el,some m=>arA T lo hi m v (tyD P el)
  | none,none=>strS P t (conc v) (concO T lo) (concO T hi)
  | _,_=>none
 | none=>none
theorem rval_slice (t:TypeId) (x:Operand) (lo hi:Option Operand):rval P s (.slice t x lo hi none)=slD P t s.T s.H lo hi (ev s.T x) (tyD P t):=by
 simp only [rval,slD]
 cases tyD P t with
 | none=>rfl
 | some d=>
  simp only
  cases d.el with
  | none=>
   cases d.len with
   | some m=>rfl
   | none=>
    simp only [strS,show concO s.T none=some none from rfl]
    generalize concO s.T lo=a
    generalize concO s.T hi=b
    cases conc (ev s.T x) <;> cases a <;> cases b <;> rfl
  | some el=>
   cases d.len with
   | some m=>
    simp only
    cases tyD P el with
    | none=>cases ev s.T x <;> rfl
    | some de=>
     cases ev s.T x with
     | vp es i off=>
      cases lo with
      | some lo=>rfl
      | none=>
       simp only [arA]
       cases boundO s.T hi m m with
       | none=>
        cases es[i]? with
        | none=>by_cases hz:de.sz=1 <;> simp [hz,arB]
        | some e=>by_cases hz:de.sz=1 <;> simp [hz,arB]
       | some h=>
        cases hei:es[i]? with
        | none=>by_cases hz:de.sz=1 <;> simp [hz,arB,arC,hei]
        | some e=>
         simp only [arB,arC,hei,allSz_eq]
         by_cases hz:de.sz=1
         ·by_cases hc:off+m≤e.cells.length∧m≤1000000∧allSz 1 e.cells=true
          ·rw [if_pos ⟨hz,hc⟩,if_pos (by simp [hz]),if_pos (by simp [hc.1,hc.2.1,hc.2.2])]
          ·rw [if_neg (fun h=>hc h.2),if_pos (by simp [hz]),if_neg]
           intro h'
           simp only [Bool.and_eq_true,decide_eq_true_eq] at h'
           exact hc ⟨h'.1.1,h'.1.2,h'.2⟩
         ·rw [if_neg (fun h=>hz h.1),if_neg (by simpa using hz)]
     | _=>rfl
   | none=>
    simp only
    cases tyD P el with
    | none=>cases ev s.T x <;> rfl
    | some de=>
     simp only
     cases ev s.T x with
     | vw z es=>
      simp only [slE,boundO_none]
      by_cases ha:allSz de.sz es=true
      ·rw [if_pos ha]
       cases boundO s.T hi es.length es.length with
       | none=>rfl
       | some h=>
        simp only [slF]
        cases boundO s.T lo 0 h with
        | none=>rfl
        | some l=>
         simp only [slG]
         rw [if_pos ⟨by rw [allSz_eq]; exact ha,by simp⟩]
         rfl
      ·rw [if_neg ha]
       cases boundO s.T hi es.length es.length with
       | none=>rfl
       | some h=>
        simp only
        cases boundO s.T lo 0 h with
        | none=>rfl
        | some l=>
         simp only
         rw [if_neg]
         rintro ⟨h1,_⟩
         rw [allSz_eq] at h1
         exact ha h1
     | sl id ver lo' len=>
      simp only [slE,slH]
      cases liveB s.H id ver with
      | none=>rfl
      | some B=>
       simp only [slI,slK]
       by_cases hb:B.esz=de.sz
       ·cases boundO s.T hi len len with
        | none=>simp [hb]
        | some h=>cases hl:boundO s.T lo 0 h <;> simp [hb,hl]
       ·cases boundO s.T hi len len with
        | none=>simp [hb]
        | some h=>cases hl:boundO s.T lo 0 h <;> simp [hb,hl]
     | _=>rfl
theorem slD_sl (t:TypeId) (lo hi:Option Operand) (v:AV) (ag sz by' z el fl):slD P t T H lo hi v (some ⟨ag,sz,by',z,some el,none,fl⟩)=slE T H lo hi v (tyD P el):=rfl
theorem slE_vw {lo hi:Option Operand} {z:Bool} {es:List AV} {de:TyD} (h:allSz de.sz es=true):slE T H lo hi (.vw z es) (some de)=slF T z es lo (boundO T hi es.length es.length):=by simp [slE,h]
theorem slE_sl (lo hi:Option Operand) (id ver lo' len:Nat) (de:TyD):slE T H lo hi (.sl id ver lo' len) (some de)=slH T de id ver lo' len lo hi (liveB H id ver):=rfl
theorem slH_some {de:TyD} {id ver lo' len:Nat} {lo hi:Option Operand} {B:Blk} (h:(B.esz == de.sz)=true):slH T de id ver lo' len lo hi (some B)=slI T id ver lo' lo (boundO T hi len len):=by simp [slH,h]
theorem slF_some (z:Bool) (es:List AV) (lo:Option Operand) (h:Nat):slF T z es lo (some h)=slG z es h (boundO T lo 0 h):=rfl
theorem slG_some (z:Bool) (es:List AV) (h l:Nat):slG z es h (some l)=some (.vw (z && decide (h=es.length)) ((es.drop l).take (h - l))):=rfl
theorem slI_some (id ver lo':Nat) (lo:Option Operand) (h:Nat):slI T id ver lo' lo (some h)=slK id ver lo' h (boundO T lo 0 h):=rfl
theorem slK_some (id ver lo' h l:Nat):slK id ver lo' h (some l)=some (.sl id ver (lo'+l) (h - l)):=rfl
end
section
variable {P:Program} {s:St}
def mm (P:Program) (b:Builtin) (ats:Array TypeId) (args:List AV):Option AV:=
 match concs args with
 | some l=>match spure P (match b with | .min=>Builtin.min_ ats 0 l.toArray | _=>Builtin.max_ ats 0 l.toArray) with
  | some v=>some (ofV v)
  | none=>none
 | none=>none
theorem rval_min (x y:Operand) (t t':TypeId):rval P s (.call ⟨.builtin .min,#[x,y],#[t,t']⟩)=mm P .min #[t,t'] [ev s.T x,ev s.T y]:=rfl
theorem rval_max (x y:Operand) (t t':TypeId):rval P s (.call ⟨.builtin .max,#[x,y],#[t,t']⟩)=mm P .max #[t,t'] [ev s.T x,ev s.T y]:=rfl
theorem mm_min (ats:Array TypeId) (k:IntKind) (a b:Int):mm P .min ats [.sc (.int k a),.sc (.int k b)]=some (.sc (.int k (min a b))):=by
 have:spure P (Builtin.min_ ats 0 #[.int k a,.int k b])=some (.int k (min a b)):=by
  simp [spure,Builtin.min_,Builtin.min2,rd_bind,rd_pure,List.foldlM]
  split <;> omega
 simp only [mm,concs,conc,this]
 rfl
theorem mm_max (ats:Array TypeId) (k:IntKind) (a b:Int):mm P .max ats [.sc (.int k a),.sc (.int k b)]=some (.sc (.int k (max a b))):=by
 have:spure P (Builtin.max_ ats 0 #[.int k a,.int k b])=some (.int k (max a b)):=by
  simp [spure,Builtin.max_,Builtin.max2,rd_bind,rd_pure,List.foldlM]
  split <;> omega
 simp only [mm,concs,conc,this]
 rfl
end
theorem ofAgg_int (k:IntKind) (n:Int):ofAgg (.int k n)=.sc (.int k n):=rfl
theorem ofAgg_str (b:ByteArray):ofAgg (.string b)=.sc (.string b):=rfl
theorem ofAgg_slice:ofAgg (.slice none 0 0)=.vw true []:=rfl
theorem vcells_int (k:IntKind) (n:Int):(Value.int k n).cells.size=1:=rfl
theorem vcells_str (b:ByteArray):(Value.string b).cells.size=1:=rfl
theorem vcells_agg (cs:List Value):(Value.agg cs.toArray).cells.size=cs.length:=rfl
theorem rep1 (x:AV):List.replicate 1 x=[x]:=rfl
theorem rep2 (x:AV):List.replicate 2 x=[x,x]:=rfl
theorem rep3 (x:AV):List.replicate 3 x=[x,x,x]:=rfl
theorem rep5 (x:AV):List.replicate 5 x=[x,x,x,x,x]:=rfl
theorem dropL_one {α:Type} (a:α):[a].dropLast=[]:=rfl
theorem dropL_two {α:Type} (a b:α) (l:List α):(a::b::l).dropLast=a::(b::l).dropLast:=rfl
end Go.SX

namespace Go.SX
set_option linter.unusedSimpArgs false
set_option linter.unusedVariables false
open Go.RowKit (Below)
mutual
def AV.fresh:AV→Bool
 | .sc _ | .un | .jk | .pt .. | .sl ..=>true
 | .vw _ es=>es.isEmpty
 | .ag cs | .tu cs=>freshs cs
 | _=>false
def freshs:List AV→Bool
 | []=>true
 | a::r=>a.fresh && freshs r
end
mutual
def AV.freshIn (H:List Blk):AV→Bool
 | .sl id ver _ _=>match liveB H id ver with | some B=>freshs B.els | none=>true
 | .pt id ver _ _=>match liveB H id ver with | some B=>freshs B.els | none=>true
 | .ag cs | .tu cs=>freshsIn H cs
 | .vw _ es=>es.isEmpty
 | .sc _ | .un | .jk=>true
 | _=>false
def freshsIn (H:List Blk):List AV→Bool
 | []=>true
 | a::r=>a.freshIn H && freshsIn H r
end
mutual
theorem fresh_any {w X Y o}:∀ (a:AV) {v:Value},a.fresh=true→VR w X o a v→VR w Y none a v
 | .sc x,v,_,h=>by cases h with | sc h=>exact .sc h
 | .un,v,_,h=>by cases h; exact .un
 | .jk,v,_,_=>.jk
 | .pt ..,v,_,h=>by cases h with | pt h1 h2=>exact .pt h1 (fun _ e=>by cases e)
 | .sl ..,v,_,h=>by cases h with | sl h1 h2=>exact .sl h1 (fun _ e=>by cases e)
 | .vw z [],v,_,h=>by
  cases h with
  | vw0 hz hm=>exact .vw0 hz hm
  | vw1 f hne=>exact absurd rfl hne
 | .vw z (_::_),v,hf,_=>by simp [AV.fresh] at hf
 | .ag cs,v,hf,h=>by
  cases h with
  | ag hl h1 h2=>
   have:=freshs_any (Y:=Y) cs (by simpa [AV.fresh] using hf) ⟨hl,h1⟩
   exact .ag this.1 this.2 h2
 | .tu cs,v,hf,h=>by
  cases h with
  | tu hl h1=>
   have:=freshs_any (Y:=Y) cs (by simpa [AV.fresh] using hf) ⟨hl,h1⟩
   exact .tu this.1 this.2
 | .vp ..,v,hf,_=>by simp [AV.fresh] at hf
 | .fn ..,v,hf,_=>by simp [AV.fresh] at hf
theorem freshs_any {w X Y o}:∀ (as:List AV) {vs:List Value},freshs as=true→VL w X o as vs→VL w Y none as vs
 | [],vs,_,h=>by rw [h.unnil]; exact .nil
 | a::r,vs,hf,h=>by
  obtain ⟨v,vs',rfl,h1,h2⟩:=h.uncons
  simp only [freshs,Bool.and_eq_true] at hf
  exact .cons (fresh_any a hf.1 h1) (freshs_any r hf.2 h2)
end
theorem freshs_mem:∀ {as:List AV},freshs as=true→∀ a ∈ as,a.fresh=true
 | [],_,a,h=>by cases h
 | b::r,h,a,ha=>by
  simp only [freshs,Bool.and_eq_true] at h
  rcases List.mem_cons.1 ha with rfl | ha
  ·exact h.1
  ·exact freshs_mem h.2 a ha
theorem fresh_cells {e:AV} (h:e.fresh=true):∀ a ∈ e.cells,a.fresh=true:=by
 intro a ha
 cases e with
 | ag cs=>
  have h':freshs cs=true:=by simpa [AV.fresh] using h
  exact freshs_mem h' a ha
 | _=>simp only [AV.cells,List.mem_singleton] at ha; subst ha; exact h
mutual
theorem borrowF_ok {w X Y hc} (hr:HR w X hc) (ho:∀ b,Own hc b→¬ Y b):∀ (a:AV) {v:Value},a.freshIn hc.H=true→VR w X (some hc) a v→VR w Y (some hc0) (borrow hc.H a) v
 | .sc x,v,_,h=>by cases h with | sc h=>exact .sc h
 | .un,v,_,h=>by cases h; exact .un
 | .jk,v,_,_=>.jk
 | .vw z [],v,_,h=>by
  cases h with
  | vw0 hz hm=>exact .vw0 hz hm
  | vw1 f hne=>exact absurd rfl hne
 | .vw z (_::_),v,hf,_=>by simp [AV.freshIn] at hf
 | .vp ..,v,hf,_=>by simp [AV.freshIn] at hf
 | .fn ..,v,hf,_=>by simp [AV.freshIn] at hf
 | .ag cs,v,hf,h=>by
  cases h with
  | ag hl h1 h2=>
   have:=borrowsF_ok hr ho cs (by simpa [AV.freshIn] using hf) ⟨hl,h1⟩
   exact .ag this.1 this.2 h2
 | .tu cs,v,hf,h=>by
  cases h with
  | tu hl h1=>
   have:=borrowsF_ok hr ho cs (by simpa [AV.freshIn] using hf) ⟨hl,h1⟩
   exact .tu this.1 this.2
 | .pt id ver i off,v,hf,h=>by
  simp only [borrow]
  split
  ·rename_i B hl
   simp only [AV.freshIn,hl] at hf
   obtain ⟨b,base,h1,h2,h3,⟨cs,h4⟩,h5⟩:=pt_live hr h hl
   obtain ⟨g1,g2,g3⟩:=liveB_some hl
   subst h2
   refine .vp (fun i j=>(w.cell? ⟨b,base+i * B.esz+j,none⟩).getD undef) (ho b ⟨id,B,base,g1,g2,h1⟩) (hr.lt b h3) ?_ ?_ ?_
   ·intro e he
    obtain ⟨i,hi⟩:=List.mem_iff_getElem?.1 he
    exact (h5 i e hi).1
   ·intro i j hi hj
    obtain ⟨q1,q2⟩:=h5 i B.els[i] (by simp [hi])
    obtain ⟨c,e1,e2,e3⟩:=q2 j (B.els[i].cells[j]'(by omega)) (by simp)
    rw [e1]
    exact ⟨rfl,e2⟩
   ·intro i e j a he ha
    obtain ⟨q1,q2⟩:=h5 i e he
    obtain ⟨c,e1,e2,e3⟩:=q2 j a ha
    rw [e1]
    exact fresh_any a (fresh_cells (freshs_mem hf e (List.mem_of_getElem? he)) a (List.mem_of_getElem? ha)) e3
  ·exact .jk
 | .sl id ver lo len,v,hf,h=>by
  simp only [borrow]
  split
  ·rename_i B hl
   simp only [AV.freshIn,hl] at hf
   obtain ⟨g1,g2,g3⟩:=liveB_some hl
   cases h with
   | sl q1 q2=>
    obtain ⟨r1,r2⟩:=q2 _ rfl
    obtain ⟨r3,r4⟩:=r2 B g1 g2 g3
    have hlen:((B.els.drop lo).take len).length=len:=by simp; omega
    have hB:=hr.blk id B g1 g2
    rcases r4 with ⟨r4,p,hp⟩ | ⟨b,base,cap,nn,hloc,k1,k2,k3,k4,k5⟩
    ·subst r4; subst hp
     rw [List.take_zero]
     exact .vw0 (fun h=>by cases h) (Nat.zero_le _)
    ·have hB2:=hB.2.2
     rw [hloc] at hB2
     obtain ⟨m1,⟨cs,m2⟩,m3⟩:=hB2
     subst k1
     by_cases h0:len=0
     ·subst h0
      rw [List.take_zero]
      exact .vw0 (fun h=>by cases h) k3
     ·have hne:(B.els.drop lo).take len≠[]:=by intro e; rw [e] at hlen; simp at hlen; omega
      have hget:∀ i e,((B.els.drop lo).take len)[i]?=some e→B.els[lo+i]?=some e:=by
       intro i e he
       rw [List.getElem?_take] at he
       split at he
       ·rwa [List.getElem?_drop] at he
       ·cases he
      have:=VR.vw1 (w:=w) (X:=Y) (o:=some hc0) (z:=false) (es:=(B.els.drop lo).take len) (b:=b) (base:=base+lo * B.esz) (cap:=cap) (esz:=B.esz)
       (fun i j=>(w.cell? ⟨b,base+lo * B.esz+i * B.esz+j,none⟩).getD undef) hne (ho b ⟨id,B,base,g1,g2,hloc⟩) (hr.lt b m1) (by rw [hlen]; exact k2) (fun h=>by cases h) k3
       (fun e he=>by
        obtain ⟨i,hi⟩:=List.mem_iff_getElem?.1 he
        exact (m3 _ e (hget i e hi)).1)
       (fun i j hi hj=>by
        have he:((B.els.drop lo).take len)[i]?=some ((B.els.drop lo).take len)[i]:=List.getElem?_eq_getElem hi
        obtain ⟨q1,q2⟩:=m3 _ _ (hget i _ he)
        obtain ⟨c,e1,e2,e3⟩:=q2 j (((B.els.drop lo).take len)[i].cells[j]'(by omega)) (by simp)
        rw [Nat.add_mul,←Nat.add_assoc] at e1
        rw [e1]
        exact ⟨rfl,e2⟩)
       (fun i e j a he ha=>by
        obtain ⟨q1,q2⟩:=m3 _ e (hget i e he)
        obtain ⟨c,e1,e2,e3⟩:=q2 j a ha
        rw [Nat.add_mul,←Nat.add_assoc] at e1
        rw [e1]
        exact fresh_any a (fresh_cells (freshs_mem hf e (List.mem_of_getElem? (hget i e he))) a (List.mem_of_getElem? ha)) e3)
      rw [hlen] at this
      exact this
  ·exact .jk
theorem borrowsF_ok {w X Y hc} (hr:HR w X hc) (ho:∀ b,Own hc b→¬ Y b):∀ (as:List AV) {vs:List Value},freshsIn hc.H as=true→VL w X (some hc) as vs→VL w Y (some hc0) (borrows hc.H as) vs
 | [],vs,_,h=>by rw [h.unnil]; exact .nil
 | a::r,vs,hf,h=>by
  obtain ⟨v,vs',rfl,h1,h2⟩:=h.uncons
  simp only [freshsIn,Bool.and_eq_true] at hf
  exact .cons (borrowF_ok hr ho a hf.1 h1) (borrowsF_ok hr ho r hf.2 h2)
end
def FSpec (P:Program) (f:FuncId) (args:List AV) (r:AV):Prop:=
 Callable P f∧r.noref=true∧∀ (w:World) (cargs:Array Value),VL w noX (some hc0) args cargs.toList→
  Calls P f cargs w fun e w'=>∃ c,e=.returned c∧VR w' (fun b=>b < w.heap.size) (some hc0) r c∧Below w.heap.size w w'
def FOk (P:Program) (g:Nat) (F:List AV→Option AV):Prop:=∀ args r,F args=some r→FSpec P g args r
inductive FOks (P:Program):List (Nat × (List AV→Option AV))→Prop
 | nil:FOks P []
 | cons {g F r} (h:FOk P g F) (t:FOks P r):FOks P ((g,F)::r)
theorem fok_mk {P:Program} {g:Nat} {α:Type} {q:α→Prop} {enc:α→List AV} {out:α→AV} (h:∀ x,q x→FSpec P g (enc x) (out x)):FOk P g (mkF q enc out):=by
 intro args r hr
 obtain ⟨x,hq,rfl,rfl⟩:=mkF_inv hr
 exact h x hq
theorem hspec_of_f {P:Program} {f:FuncId} {args:List AV} {r:AV} {H:List Blk} {cnt:Nat} (hv:FSpec P f (borrows H args) r):HSpec P f args H cnt r H cnt:=by
 obtain ⟨h1,h2,h3⟩:=hv
 refine ⟨h1,fun w X loc cargs hr hl=>?_⟩
 refine (h3 w cargs (borrows_ok (hc:=⟨loc,H,cnt⟩) hr args hl)).mono ?_
 rintro e w' ⟨c,rfl,g1,g2⟩
 exact ⟨X,loc,c,rfl,hr.below g2,noref_ok _ h2 (g1.antiX (fun b hb=>hr.lt b hb)).close,evo_below g2 X _⟩
def hcF (H:List Blk) (cnt:Nat):Option AV→Option (AV × List Blk × Nat)
 | some r=>some (r,H,cnt)
 | none=>none
theorem hcF_some (H:List Blk) (cnt:Nat) (r:AV):hcF H cnt (some r)=some (r,H,cnt):=rfl
def fEnv (l lf:List (Nat × (List AV→Option AV))):Env:=⟨pin l,pl l,fun g args H cnt=>hcF H cnt (pl lf g (borrows H args)),false,fun _=>none,fun _=>false⟩
theorem lit_fEnv (l lf:List (Nat × (List AV→Option AV))):(fEnv l lf).lit=false:=rfl
theorem perm_fEnv (l lf:List (Nat × (List AV→Option AV))) (i:Nat):(fEnv l lf).perm i=none:=rfl
theorem hb_fEnv (l lf:List (Nat × (List AV→Option AV))) (g:Nat):(fEnv l lf).hb g=false:=rfl
theorem isP_fEnv (l lf:List (Nat × (List AV→Option AV))) (f:Nat):(fEnv l lf).isP f=pin l f:=rfl
theorem pcall_fEnv (l lf:List (Nat × (List AV→Option AV))) (f:Nat) (a:List AV):(fEnv l lf).pcall f a=pl l f a:=rfl
theorem fEnv_ok {P:Program} {l lf:List (Nat × (List AV→Option AV))} (h:POks P l) (hf:FOks P lf):EnvOk P (fEnv l lf) where
 p:=(pEnv_ok h).p
 h f args H cnt r H' cnt' he:=by
  simp only [fEnv] at he
  cases hp:pl lf f (borrows H args) with
  | none=>rw [hp] at he; simp [hcF] at he
  | some q=>
   rw [hp] at he
   simp only [hcF,Option.some.injEq,Prod.mk.injEq] at he
   obtain ⟨rfl,rfl,rfl⟩:=he
   refine hspec_of_f ?_
   induction hf with
   | nil=>simp [pl] at hp
   | @cons g F l h t ih=>
    simp only [pl] at hp
    split at hp
    ·rename_i hh; subst hh; exact h _ q hp
    ·exact ih hp
theorem freshs_map {α:Type} {f:α→AV} (h:∀ x,(f x).fresh=true):∀ l:List α,freshs (l.map f)=true
 | []=>by simp [freshs]
 | x::r=>by simp [freshs,h x,freshs_map h r]
end Go.SX

namespace Go.SX
set_option linter.unusedVariables false
section
variable (d:Option Nat) (ty:TypeId) (pos:String) (af:Array Edge) (g:Option (Nat × Bool)) (X Y:Option St)
theorem opM_move_ vx:opM true ⟨d,.move vx,ty,pos,af,g⟩ X Y=X:=rfl
theorem opM_load_ vt vx:opM true ⟨d,.load vt vx,ty,pos,af,g⟩ X Y=X:=rfl
theorem opM_store_ vt va vv:opM true ⟨d,.store vt va vv,ty,pos,af,g⟩ X Y=X:=rfl
theorem opM_binOp_ vo vt vx vy vu:opM true ⟨d,.binOp vo vt vx vy vu,ty,pos,af,g⟩ X Y=X:=rfl
theorem opM_fieldAddr_ vt vx vf:opM true ⟨d,.fieldAddr vt vx vf,ty,pos,af,g⟩ X Y=X:=rfl
theorem opM_indexAddr_ vt vx vi:opM true ⟨d,.indexAddr vt vx vi,ty,pos,af,g⟩ X Y=X:=rfl
theorem opM_call_ vc:opM true ⟨d,.call vc,ty,pos,af,g⟩ X Y=X:=rfl
end
end Go.SX
