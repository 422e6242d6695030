/-
  Joined texts: SXS, SXW.
  Conditions: none.
-/
import Derived.Test.YtdjpkhjaibdogaaGreatL16
namespace Go.SX
set_option linter.unusedSimpArgs false
set_option linter.unusedVariables false
open Go.RowKit (Below)
mutual
def frzA (id ver:Nat) (els:List AV):AV→AV
 | .sl i v lo n=>if i=id∧v=ver then .vw false ((els.drop lo).take n) else .sl i v lo n
 | .ag cs=>.ag (frzL id ver els cs)
 | .sc v=>.sc v
 | .tu vs=>.tu vs
 | .pt a b c d=>.pt a b c d
 | .vw z es=>.vw z es
 | .vp es i o=>.vp es i o
 | .fn f c=>.fn f c
 | .un=>.un
 | .jk=>.jk
def frzL (id ver:Nat) (els:List AV):List AV→List AV
 | []=>[]
 | a::l=>frzA id ver els a::frzL id ver els l
end
def frzH (id ver:Nat) (els:List AV) (lo:Nat):Nat→List Blk→List Blk
 | _,[]=>[]
 | i,b::H=>(if i=id then dead else if i < lo then b else ⟨b.live,b.ver,b.ty,b.esz,frzL id ver els b.els,b.tmp⟩)::frzH id ver els lo (i+1) H
def frzR (id ver:Nat) (els:List AV):AV→AV
 | .tu vs=>.tu (frzL id ver els vs)
 | a=>frzA id ver els a
mutual
theorem frz_frzA (id:Nat) (B:Blk):∀ a,Frz id B a (frzA id B.ver B.els a)
 | .sl i v lo n=>by
  simp only [frzA]
  split
  ·rename_i h
   obtain ⟨rfl,rfl⟩:=h
   exact .sl lo n
  ·exact .same _
 | .ag cs=>by
  simp only [frzA]
  exact .ag (frz_frzL id B cs).1 (frz_frzL id B cs).2
 | .sc v=>.same _
 | .tu vs=>.same _
 | .pt ..=>.same _
 | .vw ..=>.same _
 | .vp ..=>.same _
 | .fn ..=>.same _
 | .un=>.same _
 | .jk=>.same _
theorem frz_frzL (id:Nat) (B:Blk):∀ l:List AV,l.length=(frzL id B.ver B.els l).length∧∀ (i:Nat) (a b:AV),l[i]?=some a→(frzL id B.ver B.els l)[i]?=some b→Frz id B a b
 | []=>⟨rfl,fun i a b h=>by simp at h⟩
 | x::l=>by
  obtain ⟨h1,h2⟩:=frz_frzL id B l
  refine ⟨by simp [frzL,h1],fun i a b ha hb=>?_⟩
  cases i with
  | zero=>
   simp only [frzL,List.getElem?_cons_zero,Option.some.injEq] at ha hb
   subst ha; subst hb
   exact frz_frzA id B x
  | succ i=>
   simp only [frzL,List.getElem?_cons_succ] at ha hb
   exact h2 i a b ha hb
end
theorem frzT_frzL (id:Nat) (B:Blk):∀ T:List AV,FrzT id B T (frzL id B.ver B.els T)
 | []=>trivial
 | a::T=>⟨frz_frzA id B a,frzT_frzL id B T⟩
theorem frzA_cells (id:Nat) (B:Blk) (e:AV):e.cells.length=(frzA id B.ver B.els e).cells.length∧∀ (j:Nat) (a a':AV),e.cells[j]?=some a→(frzA id B.ver B.els e).cells[j]?=some a'→Frz id B a a':=by
 have one:∀ x y:AV,Frz id B x y→∀ (j:Nat) (a a':AV),[x][j]?=some a→[y][j]?=some a'→Frz id B a a':=by
  intro x y h j a a' h1 h2
  cases j with
  | zero=>simp at h1 h2; subst h1; subst h2; exact h
  | succ j=>simp at h1
 cases e with
 | ag cs=>
  simp only [frzA,AV.cells]
  exact ⟨(frz_frzL id B cs).1,(frz_frzL id B cs).2⟩
 | sl i v lo n=>
  have:=frz_frzA id B (.sl i v lo n)
  simp only [frzA] at this ⊢
  split
  ·rename_i h
   rw [if_pos h] at this
   exact ⟨rfl,one _ _ this⟩
  ·exact ⟨rfl,one _ _ (.same _)⟩
 | _=>exact ⟨rfl,one _ _ (.same _)⟩
theorem frzH_spec (id:Nat) (B:Blk) (lo:Nat):∀ (H:List Blk) (i k:Nat) (A':Blk),(frzH id B.ver B.els lo i H)[k]?=some A'→A'.live=true→i+k≠id∧∃ A,H[k]?=some A∧FrzB id B A A'
 | [],i,k,A',h,_=>by simp [frzH] at h
 | b::H,i,0,A',h,hl=>by
  simp only [frzH,List.getElem?_cons_zero,Option.some.injEq] at h
  split at h
  ·subst h; cases hl
  ·rename_i hne
   split at h
   ·subst h
    exact ⟨by simpa using hne,b,rfl,FrzB.refl hl⟩
   subst h
   refine ⟨by simpa using hne,b,rfl,hl,rfl,rfl,rfl,(frz_frzL id B b.els).1,fun j e e' he he'=>?_⟩
   have hj:=frz_at id B b.els j e e' he he'
   subst hj
   exact frzA_cells id B e
 | b::H,i,k+1,A',h,hl=>by
  simp only [frzH,List.getElem?_cons_succ] at h
  have:=frzH_spec id B lo H (i+1) k A' h hl
  refine ⟨by have:=this.1; omega,?_⟩
  simpa using this.2
where
 frz_at (id:Nat) (B:Blk):∀ (l:List AV) (j:Nat) (e e':AV),l[j]?=some e→(frzL id B.ver B.els l)[j]?=some e'→e'=frzA id B.ver B.els e
  | [],j,e,e',h,_=>by simp at h
  | x::l,0,e,e',h,h'=>by simp [frzL] at h h'; rw [←h,←h']
  | x::l,j+1,e,e',h,h'=>by
   simp only [frzL,List.getElem?_cons_succ] at h h'
   exact frz_at id B l j e e' h h'
theorem norefs_cells {l:List AV} (h:norefs l=true):∀ e ∈ l,∀ a ∈ e.cells,a.noref=true:=by
 induction l with
 | nil=>intro e he; simp at he
 | cons x l ih=>
  simp only [norefs,Bool.and_eq_true] at h
  intro e he a ha
  rcases List.mem_cons.1 he with rfl | he
  ·cases e with
   | ag cs=>
    have hn:norefs cs=true:=by simpa [AV.noref] using h.1
    simp only [AV.cells] at ha
    clear h he ih
    induction cs with
    | nil=>simp at ha
    | cons y cs ihc=>
     simp only [norefs,Bool.and_eq_true] at hn
     rcases List.mem_cons.1 ha with rfl | ha
     ·exact hn.1
     ·exact ihc ha hn.2
   | _=>
    simp only [AV.cells,List.mem_singleton] at ha
    rw [ha]; exact h.1
  ·exact ih h.2 e he a ha
section
variable {P:Program} {E:Env} {n0:Nat} {rs:List ResultVar} {R:AV→St→Prop}
end
theorem HSpec.wk {P:Program} {f:FuncId} {args:List AV} {H H' H'':List Blk} {cnt cnt' cnt'':Nat} {r r':AV} (h:HSpec P f args H cnt r H' cnt') (h0:WkV H' r r') (h1:WkH H' H' H'') (h2:cnt'≤cnt''):
  HSpec P f args H cnt r' H'' cnt'':=by
 refine ⟨h.1,fun w X loc cargs hr hv=>(h.2 w X loc cargs hr hv).mono ?_⟩
 rintro e w' ⟨X',loc',c,rfl,g1,g2,g3⟩
 obtain ⟨q1,q2⟩:=wkH_ok (hc:=⟨loc',H',cnt'⟩) (H':=H'') (cnt':=cnt'') g1 h1 h2
 exact ⟨X',loc',c,rfl,q1,(wkV_ok (hc:=⟨loc',H',cnt'⟩) h0 g2).mono q2 g1,g3.trans q2⟩
theorem HSpec.frz {P:Program} {f:FuncId} {args:List AV} {H H':List Blk} {cnt cnt':Nat} {r:AV} (h:HSpec P f args H cnt r H' cnt') (lo id:Nat) (B:Blk) (hB:H'[id]?=some B) (hl:B.live=true) (hid:H.length≤id) (hn:norefs B.els=true):
  HSpec P f args H cnt (frzR id B.ver B.els r) (frzH id B.ver B.els lo 0 H') cnt':=by
 refine ⟨h.1,fun w X loc cargs hr hv=>(h.2 w X loc cargs hr hv).mono ?_⟩
 rintro e w' ⟨X',loc',c,rfl,g1,g2,g3⟩
 have key:∀ (T:List AV) (vs:List Value),VL w' X' (some ⟨loc',H',cnt'⟩) T vs→∃ X2 loc2,HR w' X2 ⟨loc2,frzH id B.ver B.els lo 0 H',cnt'⟩∧VL w' X2 (some ⟨loc2,frzH id B.ver B.els lo 0 H',cnt'⟩) (frzL id B.ver B.els T) vs∧Evo w X ⟨loc,H,cnt⟩ w' X2 ⟨loc2,frzH id B.ver B.els lo 0 H',cnt'⟩:=by
  intro T vs hT
  obtain ⟨X2,loc2,q1,q2⟩:=freeze_sr (n0:=H.length) (T:=T) (T':=frzL id B.ver B.els T) (H:=H') (H':=frzH id B.ver B.els lo 0 H') (c:=cnt') (c':=cnt') (loc:=loc') (a:={ tmps:=vs.toArray,defers:=[] }) id B ⟨g1,by simpa [St.hc] using hT,rfl⟩ hB hl hid (norefs_cells hn) (frzT_frzL id B T)
   (fun k A' h1 h2=>by
    have:=frzH_spec id B lo H' 0 k A' h1 h2
    rwa [Nat.zero_add] at this) (Nat.le_refl _)
  exact ⟨X2,loc2,q1.hr,by simpa [St.hc] using q1.tm,q2 w X ⟨loc,H,cnt⟩ rfl g3⟩
 by_cases hr:∃ vs,r=.tu vs
 ·obtain ⟨vs,rfl⟩:=hr
  cases g2 with
  | tu hl' h1'=>
   rename_i us
   obtain ⟨X2,loc2,q1,q2,q3⟩:=key vs us ⟨hl',h1'⟩
   exact ⟨X2,loc2,_,rfl,q1,.tu q2.1 q2.2,q3⟩
 ·obtain ⟨X2,loc2,q1,q2,q3⟩:=key [r] [c] ⟨rfl,fun i a v h1 h2=>by
   cases i with
   | zero=>simp at h1 h2; subst h1; subst h2; exact g2
   | succ i=>simp at h1⟩
  refine ⟨X2,loc2,c,rfl,q1,?_,q3⟩
  have:=q2.2 0 (frzA id B.ver B.els r) c rfl rfl
  have e:frzR id B.ver B.els r=frzA id B.ver B.els r:=by
   cases r with
   | tu vs=>exact absurd ⟨vs,rfl⟩ hr
   | _=>rfl
  rw [e]; exact this
section
variable (id ver:Nat) (els:List AV)
theorem frzR_sl (i v lo n:Nat):frzR id ver els (.sl i v lo n)=if i=id∧v=ver then .vw false ((els.drop lo).take n) else .sl i v lo n:=rfl
end
mutual
def swA (a b:Nat):AV→AV
 | .sl i v lo n=>.sl (swp a b i) v lo n
 | .pt i v k o=>.pt (swp a b i) v k o
 | .ag cs=>.ag (swL a b cs)
 | .sc v=>.sc v
 | .tu _=>.jk
 | .vw z es=>.vw z es
 | .vp es i o=>.vp es i o
 | .fn f c=>if norefs c=true then .fn f c else .jk
 | .un=>.un
 | .jk=>.jk
def swL (a b:Nat):List AV→List AV
 | []=>[]
 | x::l=>swA a b x::swL a b l
end
def swB (a b:Nat) (x:Blk):Blk:=⟨x.live,x.ver,x.ty,x.esz,swL a b x.els,x.tmp⟩
def swM (a b:Nat):List Blk→List Blk
 | []=>[]
 | x::H=>swB a b x::swM a b H
def swH (a b:Nat) (H:List Blk):List Blk:=swM a b ((H.set a (H.getD b dead)).set b (H.getD a dead))
def noJkH:List Blk→Bool
 | []=>true
 | b::H=>noJk b.els && noJkH H
mutual
theorem ren_swA (a b:Nat):∀ x,Ren a b x (swA a b x)
 | .sl i v lo n=>.sl i v lo n
 | .pt i v k o=>.pt i v k o
 | .ag cs=>.ag (ren_swL a b cs).1 (ren_swL a b cs).2
 | .sc v=>.same rfl
 | .tu _=>.jk
 | .vw z es=>.same rfl
 | .vp es i o=>.same rfl
 | .fn f c=>by
  simp only [swA]
  split
  ·rename_i h
   exact .same (by simpa [AV.noref] using h)
  ·exact .jk
 | .un=>.same rfl
 | .jk=>.same rfl
theorem ren_swL (a b:Nat):∀ l:List AV,l.length=(swL a b l).length∧∀ (i:Nat) (c d:AV),l[i]?=some c→(swL a b l)[i]?=some d→Ren a b c d
 | []=>⟨rfl,fun i c d h=>by simp at h⟩
 | x::l=>by
  obtain ⟨h1,h2⟩:=ren_swL a b l
  refine ⟨by simp [swL,h1],fun i c d hc hd=>?_⟩
  cases i with
  | zero=>
   simp only [swL,List.getElem?_cons_zero,Option.some.injEq] at hc hd
   subst hc; subst hd
   exact ren_swA a b x
  | succ i=>
   simp only [swL,List.getElem?_cons_succ] at hc hd
   exact h2 i c d hc hd
end
theorem renL_swL (a b:Nat):∀ l:List AV,RenL a b l (swL a b l)
 | []=>trivial
 | x::l=>⟨ren_swA a b x,renL_swL a b l⟩
theorem swM_get (a b:Nat):∀ (H:List Blk) (j:Nat),(swM a b H)[j]?=H[j]?.map (swB a b)
 | [],j=>rfl
 | x::H,0=>rfl
 | x::H,j+1=>by simp only [swM,List.getElem?_cons_succ]; exact swM_get a b H j
theorem noJkH_get:∀ {H:List Blk},noJkH H=true→∀ (j:Nat) (A:Blk),H[j]?=some A→noJk A.els=true
 | [],_,j,A,h=>by simp at h
 | x::H,hn,0,A,h=>by
  simp only [noJkH,Bool.and_eq_true] at hn
  simp only [List.getElem?_cons_zero,Option.some.injEq] at h
  subst h; exact hn.1
 | x::H,hn,j+1,A,h=>by
  simp only [noJkH,Bool.and_eq_true] at hn
  exact noJkH_get hn.2 j A (by simpa using h)
section
variable {P:Program} {E:Env} {n0:Nat} {rs:List ResultVar} {R:AV→St→Prop}
theorem go_swp {k:List Item} {T:List AV} {H:List Blk} {c:Nat} (a b:Nat) (ha:n0≤a) (hb:n0≤b) (hla:a < H.length) (hlb:b < H.length) (hj:noJkH (swH a b H)=true)
  (h:Go P E n0 rs R k ⟨swL a b T,swH a b H,c⟩):Go P E n0 rs R k ⟨T,H,c⟩:=by
 refine go_swap a b ha hb (renL_swL a b T) (fun j A' h1 h2=>?_) h
 have hn:=noJkH_get hj j A' h1
 have key:∀ A:Blk,A.live=true→A'=swB a b A→RenB a b A A':=by
  rintro A hl rfl
  exact ⟨hl,rfl,rfl,rfl,renL_swL a b A.els,noJk_mem hn⟩
 unfold swH at h1
 rw [swM_get] at h1
 obtain ⟨A,hA,rfl⟩:=Option.map_eq_some_iff.1 h1
 refine ⟨A,?_,key A h2 rfl⟩
 rw [List.getElem?_set,List.getElem?_set] at hA
 unfold swp
 by_cases hjb:b=j
 ·subst hjb
  rw [if_pos rfl,List.length_set,if_pos hlb] at hA
  by_cases hab:b=a
  ·subst hab
   rw [if_pos rfl]
   rw [List.getD_eq_getElem?_getD,List.getElem?_eq_getElem hla] at hA
   rw [List.getElem?_eq_getElem hla]
   simpa using hA
  ·rw [if_neg hab,if_pos rfl]
   rw [List.getD_eq_getElem?_getD,List.getElem?_eq_getElem hla] at hA
   rw [List.getElem?_eq_getElem hla]
   simpa using hA
 ·rw [if_neg hjb] at hA
  by_cases hja:a=j
  ·subst hja
   rw [if_pos rfl,if_pos hla] at hA
   rw [if_pos rfl]
   rw [List.getD_eq_getElem?_getD,List.getElem?_eq_getElem hlb] at hA
   rw [List.getElem?_eq_getElem hlb]
   simpa using hA
  ·rw [if_neg hja] at hA
   rw [if_neg (fun h=>hja h.symm),if_neg (fun h=>hjb h.symm)]
   exact hA
end
section
variable (a b:Nat)
theorem swp_def (i:Nat):swp a b i=if i=a then b else if i=b then a else i:=rfl
theorem swA_sl (i v lo n:Nat):swA a b (.sl i v lo n)=.sl (swp a b i) v lo n:=rfl
theorem swA_pt (i v k o:Nat):swA a b (.pt i v k o)=.pt (swp a b i) v k o:=rfl
theorem swA_ag (cs:List AV):swA a b (.ag cs)=.ag (swL a b cs):=rfl
theorem swA_sc (v:Value):swA a b (.sc v)=.sc v:=rfl
theorem swA_tu (v:List AV):swA a b (.tu v)=.jk:=rfl
theorem swA_vw (z:Bool) (es:List AV):swA a b (.vw z es)=.vw z es:=rfl
theorem swA_vp (es:List AV) (i o:Nat):swA a b (.vp es i o)=.vp es i o:=rfl
theorem swA_fn (f:Nat):swA a b (.fn f [])=.fn f []:=rfl
theorem swA_un:swA a b .un=.un:=rfl
theorem swA_jk:swA a b .jk=.jk:=rfl
theorem swL_nil:swL a b []=[]:=rfl
theorem swL_cons (x:AV) (l:List AV):swL a b (x::l)=swA a b x::swL a b l:=rfl
theorem swB_mk (l:Bool) (v t e:Nat) (es:List AV) (p:Bool):swB a b ⟨l,v,t,e,es,p⟩=⟨l,v,t,e,swL a b es,p⟩:=rfl
theorem swM_nil:swM a b []=[]:=rfl
theorem swM_cons (x:Blk) (H:List Blk):swM a b (x::H)=swB a b x::swM a b H:=rfl
theorem swH_def (H:List Blk):swH a b H=swM a b ((H.set a (H.getD b dead)).set b (H.getD a dead)):=rfl
theorem noJkH_nil:noJkH []=true:=rfl
theorem noJkH_cons (x:Blk) (H:List Blk):noJkH (x::H)=(noJk x.els && noJkH H):=rfl
theorem noJk_map {α:Type} {f:α→AV} (h:∀ x,f x≠.jk):∀ l:List α,noJk (l.map f)=true
 | []=>rfl
 | x::l=>by
  have:=h x
  rw [List.map_cons]
  cases hx:f x <;> first | exact absurd hx this | exact noJk_map h l
end
end Go.SX

namespace Go.SX
section
variable {P:Program} {E:Env} {n0:Nat} {rs:List ResultVar} {R:AV→St→Prop} {k:List Item}
end
section
variable {α:Type}
theorem st0 (a0 v:α) (l:List α):(a0::l).set 0 v=v::l:=rfl
theorem gd0 (a0 v:α) (l:List α):(a0::l).getD 0 v=a0:=rfl
theorem st1 (a0 a1 v:α) (l:List α):(a0::a1::l).set 1 v=a0::v::l:=rfl
theorem gd1 (a0 a1 v:α) (l:List α):(a0::a1::l).getD 1 v=a1:=rfl
theorem st2 (a0 a1 a2 v:α) (l:List α):(a0::a1::a2::l).set 2 v=a0::a1::v::l:=rfl
theorem gd2 (a0 a1 a2 v:α) (l:List α):(a0::a1::a2::l).getD 2 v=a2:=rfl
theorem st3 (a0 a1 a2 a3 v:α) (l:List α):(a0::a1::a2::a3::l).set 3 v=a0::a1::a2::v::l:=rfl
theorem gd3 (a0 a1 a2 a3 v:α) (l:List α):(a0::a1::a2::a3::l).getD 3 v=a3:=rfl
theorem st4 (a0 a1 a2 a3 a4 v:α) (l:List α):(a0::a1::a2::a3::a4::l).set 4 v=a0::a1::a2::a3::v::l:=rfl
theorem gd4 (a0 a1 a2 a3 a4 v:α) (l:List α):(a0::a1::a2::a3::a4::l).getD 4 v=a4:=rfl
theorem st5 (a0 a1 a2 a3 a4 a5 v:α) (l:List α):(a0::a1::a2::a3::a4::a5::l).set 5 v=a0::a1::a2::a3::a4::v::l:=rfl
theorem gd5 (a0 a1 a2 a3 a4 a5 v:α) (l:List α):(a0::a1::a2::a3::a4::a5::l).getD 5 v=a5:=rfl
theorem st6 (a0 a1 a2 a3 a4 a5 a6 v:α) (l:List α):(a0::a1::a2::a3::a4::a5::a6::l).set 6 v=a0::a1::a2::a3::a4::a5::v::l:=rfl
theorem gd6 (a0 a1 a2 a3 a4 a5 a6 v:α) (l:List α):(a0::a1::a2::a3::a4::a5::a6::l).getD 6 v=a6:=rfl
theorem st7 (a0 a1 a2 a3 a4 a5 a6 a7 v:α) (l:List α):(a0::a1::a2::a3::a4::a5::a6::a7::l).set 7 v=a0::a1::a2::a3::a4::a5::a6::v::l:=rfl
theorem gd7 (a0 a1 a2 a3 a4 a5 a6 a7 v:α) (l:List α):(a0::a1::a2::a3::a4::a5::a6::a7::l).getD 7 v=a7:=rfl
theorem st8 (a0 a1 a2 a3 a4 a5 a6 a7 a8 v:α) (l:List α):(a0::a1::a2::a3::a4::a5::a6::a7::a8::l).set 8 v=a0::a1::a2::a3::a4::a5::a6::a7::v::l:=rfl
theorem gd8 (a0 a1 a2 a3 a4 a5 a6 a7 a8 v:α) (l:List α):(a0::a1::a2::a3::a4::a5::a6::a7::a8::l).getD 8 v=a8:=rfl
theorem st9 (a0 a1 a2 a3 a4 a5 a6 a7 a8 a9 v:α) (l:List α):(a0::a1::a2::a3::a4::a5::a6::a7::a8::a9::l).set 9 v=a0::a1::a2::a3::a4::a5::a6::a7::a8::v::l:=rfl
theorem gd9 (a0 a1 a2 a3 a4 a5 a6 a7 a8 a9 v:α) (l:List α):(a0::a1::a2::a3::a4::a5::a6::a7::a8::a9::l).getD 9 v=a9:=rfl
theorem st10 (a0 a1 a2 a3 a4 a5 a6 a7 a8 a9 a10 v:α) (l:List α):(a0::a1::a2::a3::a4::a5::a6::a7::a8::a9::a10::l).set 10 v=a0::a1::a2::a3::a4::a5::a6::a7::a8::a9::v::l:=rfl
theorem gd10 (a0 a1 a2 a3 a4 a5 a6 a7 a8 a9 a10 v:α) (l:List α):(a0::a1::a2::a3::a4::a5::a6::a7::a8::a9::a10::l).getD 10 v=a10:=rfl
theorem st11 (a0 a1 a2 a3 a4 a5 a6 a7 a8 a9 a10 a11 v:α) (l:List α):(a0::a1::a2::a3::a4::a5::a6::a7::a8::a9::a10::a11::l).set 11 v=a0::a1::a2::a3::a4::a5::a6::a7::a8::a9::a10::v::l:=rfl
theorem gd11 (a0 a1 a2 a3 a4 a5 a6 a7 a8 a9 a10 a11 v:α) (l:List α):(a0::a1::a2::a3::a4::a5::a6::a7::a8::a9::a10::a11::l).getD 11 v=a11:=rfl
theorem st12 (a0 a1 a2 a3 a4 a5 a6 a7 a8 a9 a10 a11 a12 v:α) (l:List α):(a0::a1::a2::a3::a4::a5::a6::a7::a8::a9::a10::a11::a12::l).set 12 v=a0::a1::a2::a3::a4::a5::a6::a7::a8::a9::a10::a11::v::l:=rfl
theorem gd12 (a0 a1 a2 a3 a4 a5 a6 a7 a8 a9 a10 a11 a12 v:α) (l:List α):(a0::a1::a2::a3::a4::a5::a6::a7::a8::a9::a10::a11::a12::l).getD 12 v=a12:=rfl
theorem st13 (a0 a1 a2 a3 a4 a5 a6 a7 a8 a9 a10 a11 a12 a13 v:α) (l:List α):(a0::a1::a2::a3::a4::a5::a6::a7::a8::a9::a10::a11::a12::a13::l).set 13 v=a0::a1::a2::a3::a4::a5::a6::a7::a8::a9::a10::a11::a12::v::l:=rfl
theorem gd13 (a0 a1 a2 a3 a4 a5 a6 a7 a8 a9 a10 a11 a12 a13 v:α) (l:List α):(a0::a1::a2::a3::a4::a5::a6::a7::a8::a9::a10::a11::a12::a13::l).getD 13 v=a13:=rfl
theorem st14 (a0 a1 a2 a3 a4 a5 a6 a7 a8 a9 a10 a11 a12 a13 a14 v:α) (l:List α):(a0::a1::a2::a3::a4::a5::a6::a7::a8::a9::a10::a11::a12::a13::a14::l).set 14 v=a0::a1::a2::a3::a4::a5::a6::a7::a8::a9::a10::a11::a12::a13::v::l:=rfl
theorem gd14 (a0 a1 a2 a3 a4 a5 a6 a7 a8 a9 a10 a11 a12 a13 a14 v:α) (l:List α):(a0::a1::a2::a3::a4::a5::a6::a7::a8::a9::a10::a11::a12::a13::a14::l).getD 14 v=a14:=rfl
theorem st15 (a0 a1 a2 a3 a4 a5 a6 a7 a8 a9 a10 a11 a12 a13 a14 a15 v:α) (l:List α):(a0::a1::a2::a3::a4::a5::a6::a7::a8::a9::a10::a11::a12::a13::a14::a15::l).set 15 v=a0::a1::a2::a3::a4::a5::a6::a7::a8::a9::a10::a11::a12::a13::a14::v::l:=rfl
theorem gd15 (a0 a1 a2 a3 a4 a5 a6 a7 a8 a9 a10 a11 a12 a13 a14 a15 v:α) (l:List α):(a0::a1::a2::a3::a4::a5::a6::a7::a8::a9::a10::a11::a12::a13::a14::a15::l).getD 15 v=a15:=rfl
theorem st16 (a0 a1 a2 a3 a4 a5 a6 a7 a8 a9 a10 a11 a12 a13 a14 a15 v:α) (l:List α) (n:Nat):(a0::a1::a2::a3::a4::a5::a6::a7::a8::a9::a10::a11::a12::a13::a14::a15::l).set (n+16) v=a0::a1::a2::a3::a4::a5::a6::a7::a8::a9::a10::a11::a12::a13::a14::a15::l.set n v:=rfl
theorem gd16 (a0 a1 a2 a3 a4 a5 a6 a7 a8 a9 a10 a11 a12 a13 a14 a15 v:α) (l:List α) (n:Nat):(a0::a1::a2::a3::a4::a5::a6::a7::a8::a9::a10::a11::a12::a13::a14::a15::l).getD (n+16) v=l.getD n v:=rfl
end
end Go.SX
