/-
  Joined texts: EX.
  Conditions: none.
-/
import Derived.Test.YtdjpkhjaibdogaaGreatL42
import Derived.Test.YtdjpkhjaibdogaaGreatL26
namespace Go.Proofs.YtdjpkhjaibdogaaGreat
open Go Go.SX
set_option linter.unusedSimpArgs false
set_option linter.unusedVariables false
attribute [local congr] ite_congr
set_option maxRecDepth 100000
set_option maxHeartbeats 8000000
def brK (m:List Nat) (i:Nat) (c:Cd):Nat:=m.getD i default * c.ins.length / 256
def brV (m:List Nat) (i:Nat):Int:=(m.getD (i+2) default:Int) - 3
def brk (m:List Nat) (i:Nat) (c:Cd):Cd:=
 let k:=brK m i c
 let v:=brV m i
 let x:=c.ins.getD k default
 let q:=m.getD (i+1) default % 9
 if q=0 then { c with ins:=c.ins.set k ⟨v.tmod 34,x.a⟩ }
 else if q=1 then { c with ins:=c.ins.set k ⟨x.op,v⟩ }
 else if q=2 then { c with ins:=c.ins.set k ⟨x.op,v.tmod 12⟩ }
 else if q=3 then { c with ins:=c.ins.take k++c.ins.drop (k+1) }
 else if q=4 then { c with ins:=c.ins.take k++(⟨1,v⟩::c.ins.drop k) }
 else if q=5 then { c with ens:=c.ens++[⟨v.tmod 3,((m.getD i default % 8:Nat):Int),v.tmod 5,(k:Int)⟩] }
 else if q=6 then { c with tim:=v.tmod 5 }
 else if q=7 then { c with pri:=c.pri++[v] }
 else { c with strs:=c.strs++[⟨#[UInt8.ofNat (m.getD (i+2) default)]⟩] }
def brL (m:List Nat):Nat→Nat→Cd→Cd
 | 0,_,c=>c
 | n+1,i,c=>if i+2 < m.length then if (brk m i c).ins.length=0 then brk m i c else brL m n (i+3) (brk m i c) else c
structure BrOk (c:Cd) (j:Nat):Prop where
 zi:c.zi=false
 zs:c.zs=false
 ze:c.ze=false
 zp:c.zp=false
 zv:c.zv=false
 ins:c.ins.length≤1000+j
 ens:c.ens.length≤1000+j
 pri:c.pri.length≤1000+j
 strs:c.strs.length≤1000+j
 vars:c.vars=[0,5,-3]
 tim:-1000≤c.tim∧c.tim≤1000
 evs:-1000≤c.evs∧c.evs≤1000
 str:∀ b ∈ c.strs,b.size≤1000
def zeV:AV:=.ag [.vw true [],.vw true [],.vw true [],.vw true [],.vw true [],.sc (.int .i64 0),.sc (.int .i64 0)]
def cH (w:Nat) (c:Cd):List Blk:=⟨true,w,36,7,[zeV],false⟩::(codeH w c++[⟨true,w,36,7,[codeV 1 w c],false⟩])
def caT (X0 X1 X6:AV) (s0 v0 s6 v6:Nat):List AV:=mkT 0 154 [(0,X0),(1,X1),(4,.pt s0 v0 0 0),(5,.pt s6 v6 0 0),(6,X6)]
def cdV (s v:Nat→Nat) (c:Cd):AV:=.ag [.sl (s 1) (v 1) 0 c.ins.length,.sl (s 2) (v 2) 0 c.strs.length,.sl (s 3) (v 3) 0 c.ens.length,.sl (s 4) (v 4) 0 c.pri.length,.sl (s 5) (v 5) 0 c.vars.length,.sc (.int .i64 c.tim),.sc (.int .i64 c.evs)]
structure CanH (H:List Blk) (s v:Nat→Nat) (c:Cd):Prop where
 h0:∃ f,H[s 0]?=some ⟨true,v 0,36,7,[zeV],f⟩
 h1:∃ f,H[s 1]?=some ⟨true,v 1,102,2,c.ins.map inA,f⟩
 h2:∃ f,H[s 2]?=some ⟨true,v 2,9,1,c.strs.map stA,f⟩
 h3:∃ f,H[s 3]?=some ⟨true,v 3,99,4,c.ens.map enA,f⟩
 h4:∃ f,H[s 4]?=some ⟨true,v 4,3,1,c.pri.map (kA .i64),f⟩
 h5:∃ f,H[s 5]?=some ⟨true,v 5,3,1,c.vars.map (kA .i64),f⟩
 h6:∃ f,H[s 6]?=some ⟨true,v 6,36,7,[cdV s v c],f⟩
theorem rn_caT {σ:Nat→Nat} {c2:Nat} {H:List Blk} {X0 X1 X6:AV} {s0 v0 s6 v6 t0 w0 t6 w6:Nat} (n0:X0.noref=true) (n1:X1.noref=true) (n6:X6.noref=true)
  (h0:Rn 0 σ c2 H (.pt s0 v0 0 0) (.pt t0 w0 0 0)) (h6:Rn 0 σ c2 H (.pt s6 v6 0 0) (.pt t6 w6 0 0)):RnL 0 σ c2 H (caT X0 X1 X6 s0 v0 s6 v6) (caT X0 X1 X6 t0 w0 t6 w6):=by
 unfold caT
 simp (maxSteps:=10000000) only [mkT,lkT,Nat.reduceAdd,Nat.reduceEqDiff,↓reduceIte,Nat.zero_add]
 repeat' (first | exact trivial | refine And.intro (.jk _) ?_ | refine And.intro (.nr n0) ?_ | refine And.intro (.nr n1) ?_ | refine And.intro (.nr n6) ?_ | refine And.intro h0 ?_ | refine And.intro h6 ?_)
theorem go_can {P:Program} {E:Env} {rs:List ResultVar} {R:AV→St→Prop} {k:List Item} {H:List Blk} {cnt:Nat} {X0 X1 X6:AV} (c:Cd) (s v:Nat→Nat) (n0:X0.noref=true) (n1:X1.noref=true) (n6:X6.noref=true)
  (hs:∀ i,i < 7→∀ j,j < 7→s i=s j→i=j) (hH:CanH H s v c) (h:Go P E 0 rs R k ⟨caT X0 X1 X6 0 cnt 6 cnt,cH cnt c,cnt+1⟩):Go P E 0 rs R k ⟨caT X0 X1 X6 (s 0) (v 0) (s 6) (v 6),H,cnt⟩:=by
 obtain ⟨⟨f0,h0⟩,⟨f1,h1⟩,⟨f2,h2⟩,⟨f3,h3⟩,⟨f4,h4⟩,⟨f5,h5⟩,⟨f6,h6⟩⟩:=hH
 have hpt:∀ j v' B,H[s j]?=some B→B.live=true→B.ver=v'→Rn 0 s (cnt+1) H (.pt (s j) v' 0 0) (.pt j cnt 0 0):=fun j v' B e1 e2 e3=>by
  have:=Rn.pt (d:=0) (σ:=s) (c2:=cnt+1) (H1:=H) (v2:=cnt) j v' 0 0 B e1 e2 e3 (Nat.lt_succ_self _)
  rwa [Nat.zero_add] at this
 have hsl:∀ j v' n B,H[s j]?=some B→B.live=true→B.ver=v'→Rn 0 s (cnt+1) H (.sl (s j) v' 0 n) (.sl j cnt 0 n):=fun j v' n B e1 e2 e3=>by
  have:=Rn.sl (d:=0) (σ:=s) (c2:=cnt+1) (H1:=H) (v2:=cnt) j v' 0 n B e1 e2 e3 (Nat.lt_succ_self _)
  rwa [Nat.zero_add] at this
 refine go_rn s (rn_caT n0 n1 n6 (hpt 0 _ _ h0 rfl rfl) (hpt 6 _ _ h6 rfl rfl)) ?_ ?_ (Nat.le_succ _) h
 ·intro j B2 e1 e2
  have hj:j < 7:=(List.getElem?_eq_some_iff.1 e1).1
  have h7:j=0∨j=1∨j=2∨j=3∨j=4∨j=5∨j=6:=by omega
  rcases h7 with rfl | rfl | rfl | rfl | rfl | rfl | rfl
  ·cases e1; exact ⟨_,h0,rfl,Nat.le_refl _,Nat.lt_succ_self _,rfl,rfl,rfl,rn_same (els:=[zeV]) rfl rfl⟩
  ·cases e1; exact ⟨_,h1,rfl,Nat.le_refl _,Nat.lt_succ_self _,rfl,rfl,rfl,rn_same (norefs_inA _) (noJk_inA _)⟩
  ·cases e1; exact ⟨_,h2,rfl,Nat.le_refl _,Nat.lt_succ_self _,rfl,rfl,rfl,rn_same (norefs_stA _) (noJk_map (f:=stA) (fun x=>by simp [stA]) _)⟩
  ·cases e1; exact ⟨_,h3,rfl,Nat.le_refl _,Nat.lt_succ_self _,rfl,rfl,rfl,rn_same (norefs_enA _) (noJk_enA _)⟩
  ·cases e1; exact ⟨_,h4,rfl,Nat.le_refl _,Nat.lt_succ_self _,rfl,rfl,rfl,rn_same (norefs_k64 _) (noJk_map (f:=kA .i64) (fun x=>by simp [kA]) _)⟩
  ·cases e1; exact ⟨_,h5,rfl,Nat.le_refl _,Nat.lt_succ_self _,rfl,rfl,rfl,rn_same (norefs_k64 _) (noJk_map (f:=kA .i64) (fun x=>by simp [kA]) _)⟩
  ·cases e1
   refine ⟨_,h6,rfl,Nat.le_refl _,Nat.lt_succ_self _,rfl,rfl,rfl,fun i e f g1 g2=>?_⟩
   obtain rfl:i=0:=by have:=(List.getElem?_eq_some_iff.1 g1).1; simp only [List.length_cons,List.length_nil] at this; omega
   cases g1; cases g2
   refine ⟨by simp [codeV],rn_ag ⟨hsl 1 _ _ _ h1 rfl rfl,hsl 2 _ _ _ h2 rfl rfl,hsl 3 _ _ _ h3 rfl rfl,hsl 4 _ _ _ h4 rfl rfl,hsl 5 _ _ _ h5 rfl rfl,.nr rfl,.nr rfl,trivial⟩⟩
 ·intro i j Bi Bj e1 e2 _ _ e
  exact hs i (List.getElem?_eq_some_iff.1 e1).1 j (List.getElem?_eq_some_iff.1 e2).1 e
theorem brk_end (w:Nat) (c:Cd) (h1:c.zi=false) (h2:c.zs=false) (h3:c.ze=false) (h4:c.zp=false) (h5:c.zv=false):
  WkV [] (.ag [.vw false (List.take c.ins.length (c.ins.map inA)),.vw false (List.take c.strs.length (c.strs.map stA)),.vw false (List.take c.ens.length (c.ens.map enA)),.vw false (List.take c.pri.length (c.pri.map (kA .i64))),.vw false (List.take c.vars.length (c.vars.map (kA .i64))),.sc (.int .i64 c.tim),.sc (.int .i64 c.evs)]) (cdA c)∧
   AV.freshIn (⟨true,w,36,7,[codeV 1 w c],false⟩::(codeH w c++[⟨true,w,36,7,[codeV 1 w c],false⟩])) (codeV 1 w c)=true:=by
 obtain ⟨zi,ins,zs,strs,ze,ens,zp,pri,zv,vars,tim,evs⟩:=c
 simp only at h1 h2 h3 h4 h5
 subst h1; subst h2; subst h3; subst h4; subst h5
 constructor
 ·rw [List.take_of_length_le (by simp),List.take_of_length_le (by simp),List.take_of_length_le (by simp),List.take_of_length_le (by simp),List.take_of_length_le (by simp)]
  exact .refl _
 ·simp [codeV,codeH,AV.freshIn,freshsIn,liveB,freshs,AV.fresh,freshs_inA,freshs_enA,freshs_stA,freshs_k64]
theorem brok_zero (p:Bool × List Nat) (h:u8Q p):BrOk (madeC p) 0∧0 < (madeC p).ins.length:=by
 have ht:=tpL_ok p.1 p.2 (u8ok h) 1
 have hm:=mkA_ok ht (tAt_le ht (tAt_le ht (a:=0) (by omega))) 9
 have h1:=hm.ins
 have h2:=hm.ens
 refine ⟨⟨rfl,rfl,rfl,rfl,rfl,?_,?_,by simp [madeC,madeT],by simp [madeC,madeT],rfl,by simp [madeC,madeT],by simp [madeC,madeT],?_⟩,?_⟩
 ·simp only [madeC,madeT]; omega
 ·simp only [madeC,madeT]; omega
 ·intro b hb
  simp only [madeC,madeT,List.mem_cons,List.not_mem_nil,or_false] at hb
  rcases hb with rfl | rfl <;> decide
 ·have key:∀ (t:Tp) (a i:Nat),0 < (mkA t a (i+1)).ins.length:=by
   intro t a i
   induction i with
   | zero=>simp [mkA,mkI,mkGs]
   | succ i ih=>
    rw [mkA,mkI]
    split
    ·split
     ·exact ih
     ·simp [mkGs]
    ·simp [mkGs]
  exact key _ _ 8
theorem brk_ok {m:List Nat} (hm:∀ x ∈ m,x < 256) {i j:Nat} {c:Cd} (h:BrOk c j):BrOk (brk m i c) (j+1):=by
 obtain ⟨g1,g2,g3,g4,g5,g6,g7,g8,g9,g10,g11,g12,g13⟩:=h
 have hu:=u8ok hm (i+2)
 have hV:-3≤brV m i∧brV m i≤252:=by unfold brV; omega
 have hk:∀ n,(c.ins.take n).length≤c.ins.length:=fun n=>by simp [List.length_take]; omega
 have h5:-1000≤(brV m i).tmod 5∧(brV m i).tmod 5≤1000:=by
  generalize brV m i=v at hV
  have:v=-3∨v=-2∨v=-1∨0≤v:=by omega
  rcases this with rfl | rfl | rfl | h
  ·decide
  ·decide
  ·decide
  ·rw [Int.tmod_eq_emod_of_nonneg h]; omega
 obtain ⟨q,hq⟩:∃ q,m.getD (i+1) default % 9=q:=⟨_,rfl⟩
 have h9:q=0∨q=1∨q=2∨q=3∨q=4∨q=5∨q=6∨q=7∨q=8:=by omega
 simp only [brk,hq]
 have ht:=hk (brK m i c)
 rcases h9 with rfl | rfl | rfl | rfl | rfl | rfl | rfl | rfl | rfl
 ·exact ⟨g1,g2,g3,g4,g5,by simp only [Nat.reduceEqDiff,↓reduceIte,List.length_set]; omega,by simp only [Nat.reduceEqDiff,↓reduceIte,Nat.reduceEqDiff,↓reduceIte]; omega,by simp only [Nat.reduceEqDiff,↓reduceIte,Nat.reduceEqDiff,↓reduceIte]; omega,by simp only [Nat.reduceEqDiff,↓reduceIte,Nat.reduceEqDiff,↓reduceIte]; omega,g10,g11,g12,g13⟩
 ·exact ⟨g1,g2,g3,g4,g5,by simp only [Nat.reduceEqDiff,↓reduceIte,List.length_set]; omega,by simp only [Nat.reduceEqDiff,↓reduceIte,Nat.reduceEqDiff,↓reduceIte]; omega,by simp only [Nat.reduceEqDiff,↓reduceIte,Nat.reduceEqDiff,↓reduceIte]; omega,by simp only [Nat.reduceEqDiff,↓reduceIte,Nat.reduceEqDiff,↓reduceIte]; omega,g10,g11,g12,g13⟩
 ·exact ⟨g1,g2,g3,g4,g5,by simp only [Nat.reduceEqDiff,↓reduceIte,List.length_set]; omega,by simp only [Nat.reduceEqDiff,↓reduceIte,Nat.reduceEqDiff,↓reduceIte]; omega,by simp only [Nat.reduceEqDiff,↓reduceIte,Nat.reduceEqDiff,↓reduceIte]; omega,by simp only [Nat.reduceEqDiff,↓reduceIte,Nat.reduceEqDiff,↓reduceIte]; omega,g10,g11,g12,g13⟩
 ·exact ⟨g1,g2,g3,g4,g5,by simp only [Nat.reduceEqDiff,↓reduceIte,List.length_append,List.length_take,List.length_drop]; omega,by simp only [Nat.reduceEqDiff,↓reduceIte,Nat.reduceEqDiff,↓reduceIte]; omega,by simp only [Nat.reduceEqDiff,↓reduceIte,Nat.reduceEqDiff,↓reduceIte]; omega,by simp only [Nat.reduceEqDiff,↓reduceIte,Nat.reduceEqDiff,↓reduceIte]; omega,g10,g11,g12,g13⟩
 ·exact ⟨g1,g2,g3,g4,g5,by simp only [Nat.reduceEqDiff,↓reduceIte,List.length_append,List.length_cons,List.length_take,List.length_drop]; omega,by simp only [Nat.reduceEqDiff,↓reduceIte,Nat.reduceEqDiff,↓reduceIte]; omega,by simp only [Nat.reduceEqDiff,↓reduceIte,Nat.reduceEqDiff,↓reduceIte]; omega,by simp only [Nat.reduceEqDiff,↓reduceIte,Nat.reduceEqDiff,↓reduceIte]; omega,g10,g11,g12,g13⟩
 ·exact ⟨g1,g2,g3,g4,g5,by simp only [Nat.reduceEqDiff,↓reduceIte,Nat.reduceEqDiff,↓reduceIte]; omega,by simp only [Nat.reduceEqDiff,↓reduceIte,List.length_append,List.length_cons,List.length_nil]; omega,by simp only [Nat.reduceEqDiff,↓reduceIte,Nat.reduceEqDiff,↓reduceIte]; omega,by simp only [Nat.reduceEqDiff,↓reduceIte,Nat.reduceEqDiff,↓reduceIte]; omega,g10,g11,g12,g13⟩
 ·exact ⟨g1,g2,g3,g4,g5,by simp only [Nat.reduceEqDiff,↓reduceIte,Nat.reduceEqDiff,↓reduceIte]; omega,by simp only [Nat.reduceEqDiff,↓reduceIte,Nat.reduceEqDiff,↓reduceIte]; omega,by simp only [Nat.reduceEqDiff,↓reduceIte,Nat.reduceEqDiff,↓reduceIte]; omega,by simp only [Nat.reduceEqDiff,↓reduceIte,Nat.reduceEqDiff,↓reduceIte]; omega,g10,h5,g12,g13⟩
 ·exact ⟨g1,g2,g3,g4,g5,by simp only [Nat.reduceEqDiff,↓reduceIte,Nat.reduceEqDiff,↓reduceIte]; omega,by simp only [Nat.reduceEqDiff,↓reduceIte,Nat.reduceEqDiff,↓reduceIte]; omega,by simp only [Nat.reduceEqDiff,↓reduceIte,List.length_append,List.length_cons,List.length_nil]; omega,by simp only [Nat.reduceEqDiff,↓reduceIte,Nat.reduceEqDiff,↓reduceIte]; omega,g10,g11,g12,g13⟩
 ·refine ⟨g1,g2,g3,g4,g5,by simp only [Nat.reduceEqDiff,↓reduceIte]; omega,by simp only [Nat.reduceEqDiff,↓reduceIte]; omega,by simp only [Nat.reduceEqDiff,↓reduceIte]; omega,by simp only [Nat.reduceEqDiff,↓reduceIte,List.length_append,List.length_cons,List.length_nil]; omega,g10,g11,g12,?_⟩
  intro b hb
  simp only [Nat.reduceEqDiff,↓reduceIte,List.mem_append,List.mem_cons,List.not_mem_nil,or_false] at hb
  rcases hb with hb | rfl
  ·exact g13 b hb
  ·simp [ByteArray.size]
theorem stepV {P:Program} {E:Env} {ops:Array Oper} {o:Oper} {s s':St} (h:VcO P E 0 [] (fun _ t=>t=s') ops [o] [] s):opStepM P E ops s o=some s':=by
 obtain ⟨t,h1,h2⟩:=h
 simp only [runOps] at h1
 split at h1
 ·rename_i s1 hs
  cases h1
  cases h2 with
  | fin _ hR=>subst hR; exact hs
 ·cases h1
theorem litOn_gEnv (l lv lf:List (Nat × (List AV→Option AV))) (lh:List (Nat × (List AV→List Blk→Nat→Option (AV × List Blk × Nat)))) (pm:Nat→Option (List Nat)):litOn (gEnv l lv lf lh false pm)=gEnv l lv lf lh true pm:=rfl
def up (y:Nat→AV) (k:Nat) (v:AV) (j:Nat):AV:=if j=k then v else y j
def F8 (X0 X1 X6:AV) (w:Nat) (y:Nat→AV):List AV:=mkT 0 154 [(0,X0),(1,X1),(4,.pt 0 w 0 0),(5,.pt 6 w 0 0),(6,X6),(45,y 45),(46,y 46),(47,y 47),(48,y 48),(49,y 49),(50,y 50),(51,y 51),(52,y 52),(53,y 53),(54,y 54),(55,y 55),(56,y 56),(57,y 57)]
def H8 (w:Nat) (c:Cd) (b:ByteArray) (v:Nat) (l2 l11 l13:Bool):List Blk:=
 ⟨true,w,36,7,[zeV],false⟩::(codeH w c++[⟨true,w,36,7,[if l13=true then .ag [.sl 1 w 0 c.ins.length,.sl 7 v 0 (c.strs.length+1),.sl 3 w 0 c.ens.length,.sl 4 w 0 c.pri.length,.sl 5 w 0 c.vars.length,.sc (.int .i64 c.tim),.sc (.int .i64 c.evs)] else codeV 1 w c],false⟩]++
  (if l11=true then [⟨true,v,9,1,(c.strs++[b]).map stA,false⟩] else if l2=true then [⟨true,v,9,1,c.strs.map stA,false⟩] else []))
structure I8 (X0 X1 X6:AV) (i:Int) (es:List AV) (j:Nat) (x2:Nat) (w:Nat) (c:Cd) (b:ByteArray) (l:Array Bool) (s:St) (y:Nat→AV) (v c':Nat):Prop where
 st:s=⟨F8 X0 X1 X6 w y,H8 w c b v (l.getD 2 false) (l.getD 11 false) (l.getD 13 false),c'⟩
 a0:l.getD 0 false=true→y 45=.pt 6 w 0 1
 a1:l.getD 1 false=true→y 46=.sl 2 w 0 c.strs.length
 a2:l.getD 2 false=true→l.getD 11 false=false→y 47=.sl 7 v 0 c.strs.length
 a3:l.getD 3 false=true→y 48=X1
 a4:l.getD 4 false=true→y 49=X6
 a5:l.getD 5 false=true→y 50=.sc (.int .i64 (j+2:Nat))
 a6:l.getD 6 false=true→y 51=.vp es (j+2) 0
 a7:l.getD 7 false=true→y 52=.sc (.int .u8 x2)
 a8:l.getD 8 false=true→y 53=.vw false [.sc (.int .u8 x2)]
 a9:l.getD 9 false=true→y 54=stA b
 a10:l.getD 10 false=true→y 55=.vw false [stA b]
 a11:l.getD 11 false=true→y 56=.sl 7 v 0 (c.strs.length+1)
 a12:l.getD 12 false=true→y 57=.pt 6 w 0 1
theorem broken_spec (z:Bool) (l:List Nat) (zm:Bool) (m:List Nat) (hl8:∀ x ∈ l,x < 256) (hm:∀ x ∈ m,x < 256):FSpec Tryz.prog 37 [.vw z (l.map uA),.vw zm (m.map uA)] (cdA (brL m 3 0 (madeC (z,l)))):=by
 have hu:=u8ok hm
 obtain ⟨F14,k14,E14⟩:=hok_atP (made_spec z l (u8ok hl8) [⟨true,0,36,7,[.ag [.vw true [],.vw true [],.vw true [],.vw true [],.vw true [],.sc (.int .i64 0),.sc (.int .i64 0)]],false⟩] 1)
 have hmc:madeT (tpL z l 1)=madeC (z,l):=rfl
 rw [hmc] at E14
 obtain ⟨hb0,hp0⟩:=brok_zero (z,l) hl8
 generalize madeC (z,l)=c0 at *
 refine fspecW_of_go (gEnv_ok (lit:=false) (pm:=fun i=>if i=8 then some [] else none) .nil .nil .nil (.cons k14 .nil)) rfl Tryz.func37 rfl (by decide) (by kernel_rfl) (noref_cdA _) ?_
 simp only [Tryz.f37,initSt,List.length_cons,List.length_nil,Nat.reduceAdd,Nat.reduceSub,List.replicate]
 simp only [codeV,codeH,List.length_cons,List.length_nil,List.cons_append,List.nil_append,Nat.reduceAdd] at E14
 refine vc_go ?_
 simp (maxSteps:=10000000) +contextual -implicitDefEqProofs only [bnC,bnS,St.put,pin,↓reduceIte,Nat.reduceAdd,Int.reduceLT,Nat.reduceLT,bnT,Int.reduceAdd,bnH,hin,hl,E14]
 refine go_weak (T':=caT (.vw z (l.map uA)) (.vw zm (m.map uA)) (.sc (.int .i64 0)) 0 0 6 2) ?_ (weakH_refl _) (Nat.le_refl _) ?_
 ·simp (maxSteps:=10000000) only [bnC,bnS,↓reduceIte,reduceCtorEq,Nat.reduceAdd,Nat.reduceEqDiff,mkT,lkT,caT]
 refine go_can c0 id (fun i=>[0,1,1,1,1,1,2].getD i 0) (by simp [AV.noref,norefs_uA]) (by simp [AV.noref,norefs_uA]) rfl (fun i _ j _ h=>h) ⟨⟨_,rfl⟩,⟨_,rfl⟩,⟨_,rfl⟩,⟨_,rfl⟩,⟨_,rfl⟩,⟨_,rfl⟩,⟨_,rfl⟩⟩ ?_
 refine go_loopW (σ:=Nat × Cd × Nat) (fun y cnt=>⟨caT (.vw z (l.map uA)) (.vw zm (m.map uA)) (.sc (.int .i64 (3 * y.1:Nat))) 0 y.2.2 6 y.2.2,cH y.2.2 y.2.1,cnt⟩)
  (fun y=>y.1≤3∧BrOk y.2.1 y.1∧0 < y.2.1.ins.length∧brL m (3 - y.1) (3 * y.1) y.2.1=brL m 3 0 c0) (fun y=>3 - y.1) (0,c0,3) ⟨Nat.zero_le _,hb0,hp0,rfl⟩ (weakT_refl _) (weakH_refl _) rfl ?_
 rintro ⟨j,c,w⟩ cnt ⟨hj,hc,hp,hres⟩ ih
 simp only at hj hc hp hres
 have w2:IntKind.i64.wrap (((3 * j:Nat):Int)+2)=((3 * j+2:Nat):Int):=by rw [wrap64 (by omega) (by omega)]; omega
 by_cases hi:3 * j+2 < m.length
 rotate_left
 ·have h1:decide (((3 * j+2:Nat):Int) < (m.length:Int))=false:=by rw [decide_eq_false_iff_not]; omega
  have hc':brL m (3 - j) (3 * j) c=c:=by
   cases hn:3 - j with
   | zero=>rfl
   | succ n=>rw [brL,if_neg hi]
  rw [show brL m 3 0 c0=c by rw [←hres,hc']]
  refine vc_go ?_
  simp only [caT]
  simp (maxSteps:=10000000) only [mkT,lkT,Nat.reduceAdd,Nat.reduceEqDiff,↓reduceIte,Nat.zero_add]
  simp (maxSteps:=10000000) +contextual -implicitDefEqProofs only [bnC,bnS,guardV,St.put,borrow,borrows,↓reduceIte,Nat.reduceAdd,Int.reduceLT,Nat.reduceLT,bnT,Int.reduceAdd,bnH,cH,codeV,codeH,zeV,w2,h1]
  exact brk_end w c hc.zi hc.zs hc.ze hc.zp hc.zv
 have h1:decide (((3 * j+2:Nat):Int) < (m.length:Int))=true:=by rw [decide_eq_true_eq]; omega
 by_cases h9:j < 3
 rotate_left
 ·obtain rfl:j=3:=by omega
  have h2:decide (((3 * 3:Nat):Int) < 9)=false:=by decide
  rw [show brL m 3 0 c0=c by rw [←hres]; rfl]
  refine vc_go ?_
  simp only [caT]
  simp (maxSteps:=10000000) only [mkT,lkT,Nat.reduceAdd,Nat.reduceEqDiff,↓reduceIte,Nat.zero_add]
  simp (maxSteps:=10000000) +contextual -implicitDefEqProofs only [bnC,bnS,guardV,St.put,borrow,borrows,↓reduceIte,Nat.reduceAdd,Nat.reduceMul,Int.reduceLT,Nat.reduceLT,ite_self,bnT,Int.reduceAdd,Int.reduceMul,bnH,cH,codeV,codeH,zeV]
  exact brk_end w c hc.zi hc.zs hc.ze hc.zp hc.zv
 have h2:decide (((3 * j:Nat):Int) < 9)=true:=by rw [decide_eq_true_eq]; omega
 have i0:decide (((3 * j:Nat):Int) < (m.length:Int))=true:=by rw [decide_eq_true_eq]; omega
 have i1:decide (((3 * j+1:Nat):Int) < (m.length:Int))=true:=by rw [decide_eq_true_eq]; omega
 have d0:decide (3 * j < m.length)=true:=by rw [decide_eq_true_eq]; omega
 have d1:decide (3 * j+1 < m.length)=true:=by rw [decide_eq_true_eq]; omega
 have d2:decide (3 * j+2 < m.length)=true:=by rw [decide_eq_true_eq]; omega
 have w1:IntKind.i64.wrap (((3 * j:Nat):Int)+1)=((3 * j+1:Nat):Int):=by rw [wrap64 (by omega) (by omega)]; omega
 have w3:IntKind.i64.wrap (((3 * j:Nat):Int)+3)=((3 * (j+1):Nat):Int):=by rw [wrap64 (by omega) (by omega)]; omega
 have u0:=hu (3 * j)
 have u1:=hu (3 * j+1)
 have u2:=hu (3 * j+2)
 have hbr:brL m (3 - j) (3 * j) c=if (brk m (3 * j) c).ins.length=0 then brk m (3 * j) c else brL m (3 - (j+1)) (3 * (j+1)) (brk m (3 * j) c):=by
  rw [show 3 - j=(3 - (j+1))+1 by omega,brL,if_pos hi]; rfl
 obtain ⟨C,hC⟩:∃ C,brk m (3 * j) c=C:=⟨_,rfl⟩
 have hCo:=brk_ok hm (i:=3 * j) hc
 rw [hC] at hCo
 rw [hbr,hC] at hres
 obtain ⟨k,hk'⟩:∃ k,brK m (3 * j) c=k:=⟨_,rfl⟩
 obtain ⟨V,hV⟩:∃ V,brV m (3 * j)=V:=⟨_,rfl⟩
 obtain ⟨x0,e0⟩:∃ x,m.getD (3 * j) default=x:=⟨_,rfl⟩
 obtain ⟨x1,e1⟩:∃ x,m.getD (3 * j+1) default=x:=⟨_,rfl⟩
 obtain ⟨x2,e2⟩:∃ x,m.getD (3 * j+2) default=x:=⟨_,rfl⟩
 rw [e0] at u0
 rw [e1] at u1
 rw [e2] at u2
 simp only [brk,hk',hV,e0,e1,e2] at hC
 rw [brK,e0] at hk'
 rw [brV,e2] at hV
 have hin:=hc.ins
 have hmul:x0 * c.ins.length≤255 * c.ins.length:=Nat.mul_le_mul (by omega) (Nat.le_refl _)
 have hk:k < c.ins.length:=by rw [←hk']; omega
 have y0:IntKind.i64.wrap (x0:Int)=(x0:Int):=wrap64 (by omega) (by omega)
 have y2:IntKind.i64.wrap (x2:Int)=(x2:Int):=wrap64 (by omega) (by omega)
 have y3:IntKind.i64.wrap ((x2:Int) - 3)=V:=by rw [wrap64 (by omega) (by omega)]; exact hV
 have y4:IntKind.i64.wrap ((x0:Int) * (c.ins.length:Int))=((x0 * c.ins.length:Nat):Int):=by rw [←Int.natCast_mul,wrap64 (by omega) (by omega)]
 have y5:Int.tdiv ((x0 * c.ins.length:Nat):Int) 256=(k:Int):=by rw [←hk']; rfl
 have y6:Int.tmod (x1:Int) 9=((x1 % 9:Nat):Int):=rfl
 have kk:decide ((k:Int) < (c.ins.length:Int))=true:=by rw [decide_eq_true_eq]; omega
 have y7:IntKind.i64.wrap (k:Int)=(k:Int):=wrap64 (by omega) (by omega)
 have b0:((c.ins.length:Int) == 0)=false:=by rw [beq_eq_false_iff_ne]; omega
 have kn:decide (k < c.ins.length)=true:=by rw [decide_eq_true_eq]; omega
 have kl:decide ((k:Int)≤(c.ins.length:Int))=true:=by rw [decide_eq_true_eq]; omega
 have y8:IntKind.i64.wrap ((k:Int)+1)=((k+1:Nat):Int):=by rw [wrap64 (by omega) (by omega)]; omega
 have kl1:decide (((k+1:Nat):Int)≤(c.ins.length:Int))=true:=by rw [decide_eq_true_eq]; omega
 have hlk:(c.ins.take k).length=k:=by rw [List.length_take]; omega
 have tk:List.take k (c.ins.map inA)=(c.ins.take k).map inA:=by rw [List.map_take]
 have te:List.take c.ens.length (c.ens.map enA)=c.ens.map enA:=List.take_of_length_le (by simp)
 have ts:List.take c.strs.length (c.strs.map stA)=c.strs.map stA:=List.take_of_length_le (by simp)
 have tp:List.take c.pri.length (c.pri.map (kA .i64))=c.pri.map (kA .i64):=List.take_of_length_le (by simp)
 have:=hc.ens
 have:=hc.pri
 have:=hc.strs
 have zk:decide (k * 16≤140737488355328)=true:=by rw [decide_eq_true_eq]; omega
 have zs:decide (c.strs.length * 16≤140737488355328)=true:=by rw [decide_eq_true_eq]; omega
 have zs1:decide ((c.strs.length+1) * 16≤140737488355328)=true:=by rw [decide_eq_true_eq]; omega
 have ze:decide (c.ens.length * 32≤140737488355328)=true:=by rw [decide_eq_true_eq]; omega
 have zp:decide (c.pri.length * 8≤140737488355328)=true:=by rw [decide_eq_true_eq]; omega
 have ze1:decide ((c.ens.length+1) * 32≤140737488355328)=true:=by rw [decide_eq_true_eq]; omega
 have zp1:decide ((c.pri.length+1) * 8≤140737488355328)=true:=by rw [decide_eq_true_eq]; omega
 have si:∀ o a:Int,(c.ins.map inA).set k (.ag [.sc (.int .i64 o),.sc (.int .i64 a)])=(c.ins.set k ⟨o,a⟩).map inA:=fun o a=>by rw [List.map_set]; rfl
 have q0:(AV.vw z (l.map uA)).noref=true:=by simp [AV.noref,norefs_uA]
 have q1:(AV.vw zm (m.map uA)).noref=true:=by simp [AV.noref,norefs_uA]
 have ih:=fun (C:Cd) (w' c':Nat) (h1:BrOk C (j+1)) (h2:0 < C.ins.length) (h3:(if C.ins.length=0 then C else brL m (3 - (j+1)) (3 * (j+1)) C)=brL m 3 0 c0)=>ih (j+1,C,w') c' ⟨by simp only; omega,h1,h2,by rw [if_neg (by omega)] at h3; exact h3⟩ (by simp only; omega)
 simp only at ih
 obtain ⟨n1,hn1⟩:∃ n,c.ins.length - (k+1)=n:=⟨_,rfl⟩
 obtain ⟨n2,hn2⟩:∃ n,c.ins.length - k=n:=⟨_,rfl⟩
 have hl1:(c.ins.drop (k+1)).length=n1:=by rw [List.length_drop]; exact hn1
 have hl2:(c.ins.drop k).length=n2:=by rw [List.length_drop]; exact hn2
 have td1:List.take n1 (List.drop (k+1) (c.ins.map inA))=(c.ins.drop (k+1)).map inA:=by rw [←List.map_drop,List.take_of_length_le (by rw [List.length_map]; omega)]
 have td2:List.take n2 (List.drop k (c.ins.map inA))=(c.ins.drop k).map inA:=by rw [←List.map_drop,List.take_of_length_le (by rw [List.length_map]; omega)]
 have tk2:List.take k ((c.ins.take k).map inA)=(c.ins.take k).map inA:=List.take_of_length_le (by rw [List.length_map]; omega)
 have tk3:List.take (k+1) ((c.ins.take k).map inA++[.ag [.sc (.int .i64 1),.sc (.int .i64 V)]])=(c.ins.take k).map inA++[.ag [.sc (.int .i64 1),.sc (.int .i64 V)]]:=List.take_of_length_le (by rw [List.length_append,List.length_map,hlk]; exact Nat.le_refl _)
 have zk1:decide ((k+1) * 16≤140737488355328)=true:=by rw [decide_eq_true_eq]; omega
 have zn1:decide ((k+n1) * 16≤140737488355328)=true:=by rw [decide_eq_true_eq]; omega
 have zn2:decide ((k+1+n2) * 16≤140737488355328)=true:=by rw [decide_eq_true_eq]; omega
 have b2:(((k+1+n2:Nat):Int) == 0)=false:=by rw [beq_eq_false_iff_ne]; omega
 have hVb:-3≤V∧V≤252:=by omega
 obtain ⟨q,hq⟩:∃ q,x1 % 9=q:=⟨_,rfl⟩
 have hq9:q < 9:=by omega
 rw [hq] at y6 hC
 have h9:q=0∨q=1∨q=2∨q=3∨q=4∨q=5∨q=6∨q=7∨q=8:=by omega
 clear hq hq9 hu
 have z256:¬ (256:Int)=0:=by decide
 have z9:¬ (9:Int)=0:=by decide
 rcases h9 with rfl | rfl | rfl | rfl | rfl | rfl | rfl | rfl | rfl
 all_goals (refine vc_go ?_; simp only [caT]; simp (maxSteps:=10000000) only [mkT,lkT,Nat.reduceAdd,Nat.reduceEqDiff,↓reduceIte,Nat.zero_add])
 ·simp (maxSteps:=10000000) +contextual -implicitDefEqProofs only [bnC,bnS,guardV,St.put,↓reduceIte,reduceCtorEq,Nat.reduceAdd,Nat.reduceLeDiff,Nat.reduceEqDiff,Int.reduceEq,Int.reduceLT,ne_eq,Nat.reduceLT,bnT,Int.reduceAdd,bnH,inA_eq,AV.noref,cH,codeV,codeH,zeV,w1,w2,w3,h1,h2,i0,i1,d0,d1,d2,e0,e1,e2,uA_eq,get_mapN,allSz_uA,y0,y2,y3,y4,y5,y6,y7,b0,kk,kn]
  simp only [Nat.reduceEqDiff,↓reduceIte] at hC
  refine go_weak (T':=caT (.vw z (l.map uA)) (.vw zm (m.map uA)) (.sc (.int .i64 (3 * (j+1):Nat))) 0 w 6 w) (by simp (maxSteps:=10000000) only [bnC,bnS,↓reduceIte,reduceCtorEq,Nat.reduceAdd,Nat.reduceEqDiff,mkT,lkT,caT]) (weakH_refl _) (Nat.le_refl _) ?_
  simp only [si]
  refine go_can C id (fun _=>w) q0 q1 rfl (fun i _ j _ h=>h) ⟨⟨_,by first | rfl | (rw [←hC]; rfl)⟩,⟨_,by first | rfl | (rw [←hC]; rfl)⟩,⟨_,by first | rfl | (rw [←hC]; rfl)⟩,⟨_,by first | rfl | (rw [←hC]; rfl)⟩,⟨_,by first | rfl | (rw [←hC]; rfl)⟩,⟨_,by first | rfl | (rw [←hC]; rfl)⟩,⟨_,by rw [←hC]; simp only [cdV,List.length_set]; rfl⟩⟩ (ih _ _ _ hCo (by rw [←hC]; simpa using hp) hres)
 ·simp (maxSteps:=10000000) +contextual -implicitDefEqProofs only [bnC,bnS,guardV,St.put,↓reduceIte,reduceCtorEq,Nat.reduceAdd,Nat.reduceEqDiff,Int.reduceEq,Int.reduceLT,ne_eq,Nat.reduceBEq,Nat.reduceLT,bnT,Int.reduceAdd,bnH,inA_eq,AV.noref,Int.reduceBEq,cH,codeV,codeH,zeV,w1,w2,w3,h1,h2,i0,i1,d0,d1,d2,e0,e1,e2,uA_eq,get_mapN,allSz_uA,y0,y2,y3,y4,y5,y6,y7,b0,kk,kn]
  simp only [Nat.reduceEqDiff,↓reduceIte] at hC
  refine go_weak (T':=caT (.vw z (l.map uA)) (.vw zm (m.map uA)) (.sc (.int .i64 (3 * (j+1):Nat))) 0 w 6 w) (by simp (maxSteps:=10000000) only [bnC,bnS,↓reduceIte,reduceCtorEq,Nat.reduceAdd,Nat.reduceEqDiff,mkT,lkT,caT]) (weakH_refl _) (Nat.le_refl _) ?_
  simp only [si]
  refine go_can C id (fun _=>w) q0 q1 rfl (fun i _ j _ h=>h) ⟨⟨_,by first | rfl | (rw [←hC]; rfl)⟩,⟨_,by first | rfl | (rw [←hC]; rfl)⟩,⟨_,by first | rfl | (rw [←hC]; rfl)⟩,⟨_,by first | rfl | (rw [←hC]; rfl)⟩,⟨_,by first | rfl | (rw [←hC]; rfl)⟩,⟨_,by first | rfl | (rw [←hC]; rfl)⟩,⟨_,by rw [←hC]; simp only [cdV,List.length_set]; rfl⟩⟩ (ih _ _ _ hCo (by rw [←hC]; simpa using hp) hres)
 ·simp (maxSteps:=10000000) +contextual -implicitDefEqProofs only [bnC,bnS,guardV,St.put,↓reduceIte,reduceCtorEq,Nat.reduceAdd,Nat.reduceEqDiff,Int.reduceEq,Int.reduceLT,ne_eq,Nat.reduceBEq,Nat.reduceLT,bnT,Int.reduceAdd,bnH,inA_eq,AV.noref,Int.reduceBEq,cH,codeV,codeH,zeV,w1,w2,w3,h1,h2,i0,i1,d0,d1,d2,e0,e1,e2,uA_eq,get_mapN,allSz_uA,y0,y2,y3,y4,y5,y6,y7,b0,kk,kn]
  simp only [Nat.reduceEqDiff,↓reduceIte] at hC
  refine go_weak (T':=caT (.vw z (l.map uA)) (.vw zm (m.map uA)) (.sc (.int .i64 (3 * (j+1):Nat))) 0 w 6 w) (by simp (maxSteps:=10000000) only [bnC,bnS,↓reduceIte,reduceCtorEq,Nat.reduceAdd,Nat.reduceEqDiff,mkT,lkT,caT]) (weakH_refl _) (Nat.le_refl _) ?_
  simp only [si]
  refine go_can C id (fun _=>w) q0 q1 rfl (fun i _ j _ h=>h) ⟨⟨_,by first | rfl | (rw [←hC]; rfl)⟩,⟨_,by first | rfl | (rw [←hC]; rfl)⟩,⟨_,by first | rfl | (rw [←hC]; rfl)⟩,⟨_,by first | rfl | (rw [←hC]; rfl)⟩,⟨_,by first | rfl | (rw [←hC]; rfl)⟩,⟨_,by first | rfl | (rw [←hC]; rfl)⟩,⟨_,by rw [←hC]; simp only [cdV,List.length_set]; rfl⟩⟩ (ih _ _ _ hCo (by rw [←hC]; simpa using hp) hres)
 ·simp (maxSteps:=10000000) +contextual -implicitDefEqProofs only [bnC,bnS,guardV,St.put,borrow,borrows,↓reduceIte,reduceCtorEq,Nat.reduceAdd,Nat.reduceLeDiff,Nat.reduceEqDiff,Int.reduceEq,Int.reduceLT,ne_eq,Nat.reduceBEq,Nat.reduceLT,bnT,Int.reduceAdd,bnH,AV.noref,Int.reduceBEq,cH,codeV,codeH,zeV,w1,w2,w3,h1,h2,i0,i1,d0,d1,d2,e0,e1,e2,uA_eq,get_mapN,allSz_uA,y0,y2,y3,y4,y5,y6,y7,y8,kl,kl1,allSz_inA,hlk,tk,te,ts,tp,zk,hn1,hl1,td1,tk2,zn1]
  repeat' (first | exact chk_no (by kernel_rfl) | refine ⟨chk_no (by kernel_rfl),?_⟩ | refine And.intro ?_ ?_ | fail)
  simp only [Nat.reduceEqDiff,↓reduceIte] at hC
  split
  ·rename_i hz
   have hz:k+n1=0:=by rw [beq_iff_eq] at hz; omega
   have hCl:C.ins.length=0:=by rw [←hC]; simp only [List.length_append,hlk,hl1]; exact hz
   rw [if_pos hCl] at hres
   rw [←hres,←hC]
   have tt:List.take (k+n1) ((c.ins.take k).map inA++(c.ins.drop (k+1)).map inA)=(c.ins.take k++c.ins.drop (k+1)).map inA:=by
    rw [←List.map_append,List.take_of_length_le (by simp only [List.length_map,List.length_append,hlk,hl1]; omega)]
   have tv:List.take c.vars.length (c.vars.map (kA .i64))=c.vars.map (kA .i64):=List.take_of_length_le (by simp)
   rw [tt,tv]
   refine ⟨?_,?_⟩
   ·simp only [cdA,hc.zi,hc.zs,hc.ze,hc.zp,hc.zv]
    exact .refl _
   ·rw [←List.map_append]
    generalize c.ins.take k++c.ins.drop (k+1)=LL
    simp [AV.freshIn,freshsIn,liveB,freshs,AV.fresh,freshs_inA,freshs_enA,freshs_stA,freshs_k64]
  ·rename_i hz
   have hz:k+n1≠0:=by rw [beq_iff_eq] at hz; omega
   have hCl:0 < C.ins.length:=by rw [←hC]; simp only [List.length_append,hlk,hl1]; omega
   refine go_weak (T':=caT (.vw z (l.map uA)) (.vw zm (m.map uA)) (.sc (.int .i64 (3 * (j+1):Nat))) 0 w 6 w) (by simp (maxSteps:=10000000) only [bnC,bnS,↓reduceIte,reduceCtorEq,Nat.reduceAdd,Nat.reduceEqDiff,mkT,lkT,caT]) (weakH_refl _) (Nat.le_refl _) ?_
   refine go_can C (fun i=>[0,7,2,3,4,5,6].getD i 0) (fun i=>[w,cnt+1,w,w,w,w,w].getD i 0) q0 q1 rfl (by decide) ⟨⟨_,by first | rfl | (rw [←hC]; rfl)⟩,⟨_,by rw [←hC,List.map_append]; rfl⟩,⟨_,by first | rfl | (rw [←hC]; rfl)⟩,⟨_,by first | rfl | (rw [←hC]; rfl)⟩,⟨_,by first | rfl | (rw [←hC]; rfl)⟩,⟨_,by first | rfl | (rw [←hC]; rfl)⟩,⟨_,by rw [←hC]; simp only [cdV,List.length_append,hlk,hl1]; rfl⟩⟩ (ih _ _ _ hCo hCl hres)
 ·simp (maxSteps:=10000000) +contextual -implicitDefEqProofs only [bnC,bnS,guardV,St.put,↓reduceIte,reduceCtorEq,Nat.reduceAdd,Nat.reduceLeDiff,Nat.reduceEqDiff,Nat.reduceMul,Int.reduceEq,Int.reduceLT,ne_eq,Nat.reduceBEq,Nat.reduceLT,bnT,bnX,Int.reduceAdd,Int.reduceMul,bnH,norefs,AV.noref,Int.reduceBEq,cH,codeV,codeH,zeV,w1,w2,w3,h1,h2,i0,i1,d0,d1,d2,e0,e1,e2,uA_eq,get_mapN,allSz_uA,y0,y2,y3,y4,y5,y6,y7,kl,allSz_inA,hlk,tk,zk,hn2,hl2,td2,tk2,tk3,zk1,zn2,b2]
  repeat' (first | exact chk_no (by kernel_rfl) | refine ⟨chk_no (by kernel_rfl),?_⟩ | refine And.intro ?_ ?_ | fail)
  simp only [Nat.reduceEqDiff,↓reduceIte] at hC
  refine go_weak (T':=caT (.vw z (l.map uA)) (.vw zm (m.map uA)) (.sc (.int .i64 (3 * (j+1):Nat))) 0 w 6 w) (by simp (maxSteps:=10000000) only [bnC,bnS,↓reduceIte,reduceCtorEq,Nat.reduceAdd,Nat.reduceEqDiff,mkT,lkT,caT]) (weakH_refl _) (Nat.le_refl _) ?_
  refine go_can C (fun i=>[0,7,2,3,4,5,6].getD i 0) (fun i=>[w,cnt+1+1+1,w,w,w,w,w].getD i 0) q0 q1 rfl (by decide) ⟨⟨_,by first | rfl | (rw [←hC]; rfl)⟩,⟨_,by rw [←hC,List.map_append,List.map_cons]; simp only [List.append_assoc]; rfl⟩,⟨_,by first | rfl | (rw [←hC]; rfl)⟩,⟨_,by first | rfl | (rw [←hC]; rfl)⟩,⟨_,by first | rfl | (rw [←hC]; rfl)⟩,⟨_,by first | rfl | (rw [←hC]; rfl)⟩,⟨_,by rw [←hC]; simp only [cdV,List.length_append,List.length_cons,hlk,hl2]; rw [show k+(n2+1)=k+1+n2 by omega]; rfl⟩⟩ (ih _ _ _ hCo (by rw [←hC]; simp only [List.length_append,List.length_cons]; omega) hres)
 ·simp (maxSteps:=10000000) +contextual -implicitDefEqProofs only [bnC,bnS,guardV,St.put,↓reduceIte,reduceCtorEq,Nat.reduceAdd,Nat.reduceLeDiff,Nat.reduceEqDiff,Nat.reduceMul,Int.reduceEq,Int.reduceLT,ne_eq,Nat.reduceBEq,Nat.reduceLT,bnT,Int.reduceAdd,Int.reduceMul,bnH,norefs,AV.noref,Int.reduceBEq,cH,codeV,codeH,zeV,w1,w2,w3,h1,h2,i0,i1,d0,d1,d2,e0,e1,e2,uA_eq,get_mapN,allSz_uA,y0,y2,y3,y4,y5,y6,y7,b0,allSz_enA,te,ze,ze1]
  repeat' (first | exact chk_no (by kernel_rfl) | refine ⟨chk_no (by kernel_rfl),?_⟩ | refine And.intro ?_ ?_ | fail)
  simp only [Nat.reduceEqDiff,↓reduceIte] at hC
  refine go_weak (T':=caT (.vw z (l.map uA)) (.vw zm (m.map uA)) (.sc (.int .i64 (3 * (j+1):Nat))) 0 w 6 w) (by simp (maxSteps:=10000000) only [bnC,bnS,↓reduceIte,reduceCtorEq,Nat.reduceAdd,Nat.reduceEqDiff,mkT,lkT,caT]) (weakH_refl _) (Nat.le_refl _) ?_
  refine go_can C (fun i=>[0,1,2,7,4,5,6].getD i 0) (fun i=>[w,w,w,cnt+1+1,w,w,w].getD i 0) q0 q1 rfl (by decide) ⟨⟨_,by first | rfl | (rw [←hC]; rfl)⟩,⟨_,by first | rfl | (rw [←hC]; rfl)⟩,⟨_,by first | rfl | (rw [←hC]; rfl)⟩,⟨_,by rw [←hC,List.map_append]; rfl⟩,⟨_,by first | rfl | (rw [←hC]; rfl)⟩,⟨_,by first | rfl | (rw [←hC]; rfl)⟩,⟨_,by rw [←hC]; simp only [cdV,List.length_append]; rfl⟩⟩ (ih _ _ _ hCo (by rw [←hC]; exact hp) hres)
 ·simp (maxSteps:=10000000) +contextual -implicitDefEqProofs only [bnC,bnS,guardV,St.put,↓reduceIte,reduceCtorEq,Nat.reduceAdd,Nat.reduceLeDiff,Nat.reduceEqDiff,Int.reduceEq,Int.reduceLT,ne_eq,Nat.reduceBEq,Nat.reduceLT,bnT,Int.reduceAdd,bnH,AV.noref,Int.reduceBEq,cH,codeV,codeH,zeV,w1,w2,w3,h1,h2,i0,i1,d0,d1,d2,e0,e1,e2,uA_eq,get_mapN,allSz_uA,y0,y2,y3,y4,y5,y6,y7,b0]
  simp only [Nat.reduceEqDiff,↓reduceIte] at hC
  refine go_weak (T':=caT (.vw z (l.map uA)) (.vw zm (m.map uA)) (.sc (.int .i64 (3 * (j+1):Nat))) 0 w 6 w) (by simp (maxSteps:=10000000) only [bnC,bnS,↓reduceIte,reduceCtorEq,Nat.reduceAdd,Nat.reduceEqDiff,mkT,lkT,caT]) (weakH_refl _) (Nat.le_refl _) ?_
  refine go_can C id (fun _=>w) q0 q1 rfl (fun i _ j _ h=>h) ⟨⟨_,by first | rfl | (rw [←hC]; rfl)⟩,⟨_,by first | rfl | (rw [←hC]; rfl)⟩,⟨_,by first | rfl | (rw [←hC]; rfl)⟩,⟨_,by first | rfl | (rw [←hC]; rfl)⟩,⟨_,by first | rfl | (rw [←hC]; rfl)⟩,⟨_,by first | rfl | (rw [←hC]; rfl)⟩,⟨_,by first | rfl | (rw [←hC]; rfl)⟩⟩ (ih _ _ _ hCo (by rw [←hC]; exact hp) hres)
 ·simp (maxSteps:=10000000) +contextual -implicitDefEqProofs only [bnC,bnS,guardV,St.put,↓reduceIte,reduceCtorEq,Nat.reduceAdd,Nat.reduceLeDiff,Nat.reduceEqDiff,Nat.reduceMul,Int.reduceEq,Int.reduceLT,ne_eq,Nat.reduceBEq,Nat.reduceLT,bnT,Int.reduceAdd,Int.reduceMul,bnH,AV.noref,Int.reduceBEq,cH,codeV,codeH,zeV,w1,w2,w3,h1,h2,i0,i1,d0,d1,d2,e0,e1,e2,uA_eq,get_mapN,allSz_uA,y0,y2,y3,y4,y5,y6,y7,b0,allSz_kA,tp,zp,zp1]
  simp only [Nat.reduceEqDiff,↓reduceIte] at hC
  refine go_weak (T':=caT (.vw z (l.map uA)) (.vw zm (m.map uA)) (.sc (.int .i64 (3 * (j+1):Nat))) 0 w 6 w) (by simp (maxSteps:=10000000) only [bnC,bnS,↓reduceIte,reduceCtorEq,Nat.reduceAdd,Nat.reduceEqDiff,mkT,lkT,caT]) (weakH_refl _) (Nat.le_refl _) ?_
  refine go_can C (fun i=>[0,1,2,3,7,5,6].getD i 0) (fun i=>[w,w,w,w,cnt+1+1,w,w].getD i 0) q0 q1 rfl (by decide) ⟨⟨_,by first | rfl | (rw [←hC]; rfl)⟩,⟨_,by first | rfl | (rw [←hC]; rfl)⟩,⟨_,by first | rfl | (rw [←hC]; rfl)⟩,⟨_,by first | rfl | (rw [←hC]; rfl)⟩,⟨_,by rw [←hC,List.map_append]; rfl⟩,⟨_,by first | rfl | (rw [←hC]; rfl)⟩,⟨_,by rw [←hC]; simp only [cdV,List.length_append]; rfl⟩⟩ (ih _ _ _ hCo (by rw [←hC]; exact hp) hres)
 ·simp (maxSteps:=10000000) +contextual -implicitDefEqProofs only [bnC,bnS,guardV,St.put,↓reduceIte,reduceCtorEq,Nat.reduceAdd,Nat.reduceEqDiff,Int.reduceEq,ne_eq,Nat.reduceBEq,bnT,Int.reduceAdd,bnH,AV.noref,Int.reduceBEq,cH,codeV,codeH,zeV,w1,w2,h1,h2,i0,i1,d0,d1,d2,e0,e1,e2,uA_eq,get_mapN,allSz_uA,y0,y2,y3,y4,y5,y6,y7]
  refine .sem rfl ?_
  refine go_weak (T':=caT (.vw z (l.map uA)) (.vw zm (m.map uA)) (.sc (.int .i64 (3 * j:Nat))) 0 w 6 w) (by simp (maxSteps:=10000000) only [bnC,bnS,↓reduceIte,reduceCtorEq,Nat.reduceAdd,Nat.reduceEqDiff,mkT,lkT,caT]) (weakH_refl _) (Nat.le_refl _) ?_
  refine go_tree (by kernel_rfl) (I:=fun l' s'=>∃ y v c',I8 (.vw z (l.map uA)) (.vw zm (m.map uA)) (.sc (.int .i64 (3 * j:Nat))) (3 * j:Nat) (m.map uA) (3 * j) x2 w c ⟨#[UInt8.ofNat x2]⟩ l' s' y v c')
   (Q:=fun s'=>∃ y v c',s'=⟨F8 (.vw z (l.map uA)) (.vw zm (m.map uA)) (.sc (.int .i64 (3 * j:Nat))) w y,H8 w c ⟨#[UInt8.ofNat x2]⟩ v true true true,c'⟩) ?_ ?_ ?_
  ·refine ⟨fun l' s' ⟨y,v,c',hI⟩ hall=>?_,fun l' s' ⟨y,v,c',hI⟩ hsz hcl i o ho gi g2=>?_⟩
   ·have q2:=hall 2 (by decide)
    have q11:=hall 11 (by decide)
    have q13:=hall 13 (by decide)
    refine ⟨y,v,c',?_⟩
    rw [hI.st,q2,q11,q13]
   ·have hi:i < 14:=(Array.getElem?_eq_some_iff.1 ho).1
    obtain ⟨rfl,a0,a1,a2,a3,a4,a5,a6,a7,a8,a9,a10,a11,a12⟩:=hI
    have hset:∀ k,(l'.setIfInBounds i true).getD k false=if i=k then true else l'.getD k false:=fun k=>getD_setB (l:=l') (i:=i) (d:=false) (by rw [hsz]; exact hi) k
    have nb:=fun k (hb:before _ i k=true)=>show l'.getD k false=false by
     cases hq:l'.getD k false with
     | false=>rfl
     | true=>
      have h3:l'.getD i false=true:=before_in hb hcl hq
      rw [h3] at gi; cases gi
    rw [litOn_gEnv]
    have h14:i=0∨i=1∨i=2∨i=3∨i=4∨i=5∨i=6∨i=7∨i=8∨i=9∨i=10∨i=11∨i=12∨i=13:=by omega
    have hbf:=fun (p q:Nat) (hb:before _ p q=true) (h:l'.getD q false=true)=>show l'.getD p false=true from before_in hb hcl h
    generalize hLd:(fun k=>l'.getD k false)=L at hcl
    have hLe:∀ k,l'.getD k false=L k:=fun k=>by rw [←hLd]
    have hst:strOf [(x2:Int)]=⟨#[UInt8.ofNat x2]⟩:=rfl
    simp only [hLe] at a0 a1 a2 a3 a4 a5 a6 a7 a8 a9 a10 a11 a12 gi g2 hset nb hbf ⊢
    clear hcl hsz hi
    rcases h14 with rfl | rfl | rfl | rfl | rfl | rfl | rfl | rfl | rfl | rfl | rfl | rfl | rfl | rfl
    all_goals simp only [List.getElem?_toArray,List.getElem?_cons_zero,List.getElem?_cons_succ,Option.some.injEq] at ho
    all_goals subst ho
    all_goals simp [Region.binds] at g2
    ·have n11:=nb 11 (by kernel_rfl)
     have n13:=nb 13 (by kernel_rfl)
     refine ⟨⟨F8 (.vw z (l.map uA)) (.vw zm (m.map uA)) (.sc (.int .i64 (3 * j:Nat))) w (up y 45 (.pt 6 w 0 1)),H8 w c ⟨#[UInt8.ofNat x2]⟩ v (L 2) false false,c'⟩,.inl (stepV ?_),(up y 45 (.pt 6 w 0 1)),v,c',?_⟩
     ·simp only [F8]
      simp (maxSteps:=10000000) only [mkT,lkT,Nat.reduceAdd,Nat.reduceEqDiff,↓reduceIte,Nat.zero_add]
      simp (maxSteps:=10000000) +contextual -implicitDefEqProofs only [bnC,bnS,St.put,↓reduceIte,reduceCtorEq,Nat.reduceAdd,Nat.reduceEqDiff,bnT,Int.reduceAdd,bnH,codeV,codeH,zeV,opM_fieldAddr_,H8,up,n11,n13]
     ·refine ⟨?_,?_,?_,?_,?_,?_,?_,?_,?_,?_,?_,?_,?_,?_⟩ <;> simp only [hset,hst,up,Nat.reduceEqDiff,↓reduceIte,if_true,if_false,reduceCtorEq,n11,n13]
      all_goals first | rfl | assumption | (intro _; rfl) | (intro _ _; rfl) | exact fun h=>absurd h (by decide) | exact fun _ h=>absurd h (by decide) | (intros; trivial) | exact fun h _=>a2 h n11 | exact fun _ _=>a2 hq2 n11 | skip
    ·have n11:=nb 11 (by kernel_rfl)
     have n13:=nb 13 (by kernel_rfl)
     have a0:=a0 g2
     refine ⟨⟨F8 (.vw z (l.map uA)) (.vw zm (m.map uA)) (.sc (.int .i64 (3 * j:Nat))) w (up y 46 (.sl 2 w 0 c.strs.length)),H8 w c ⟨#[UInt8.ofNat x2]⟩ v (L 2) false false,c'⟩,.inl (stepV ?_),(up y 46 (.sl 2 w 0 c.strs.length)),v,c',?_⟩
     ·simp only [F8]
      simp (maxSteps:=10000000) only [mkT,lkT,Nat.reduceAdd,Nat.reduceEqDiff,↓reduceIte,Nat.zero_add]
      simp (maxSteps:=10000000) +contextual -implicitDefEqProofs only [bnC,bnS,St.put,↓reduceIte,Nat.reduceAdd,Nat.reduceEqDiff,bnT,Int.reduceAdd,bnH,codeV,codeH,zeV,opM_load_,H8,up,n11,n13,a0]
     ·refine ⟨?_,?_,?_,?_,?_,?_,?_,?_,?_,?_,?_,?_,?_,?_⟩ <;> simp only [hset,hst,up,Nat.reduceEqDiff,↓reduceIte,if_true,if_false,reduceCtorEq,n11,n13,a0]
      all_goals first | rfl | assumption | (intro _; rfl) | (intro _ _; rfl) | exact fun h=>absurd h (by decide) | exact fun _ h=>absurd h (by decide) | (intros; trivial) | exact fun h _=>a2 h n11 | exact fun _ _=>a2 hq2 n11 | skip
    ·have n11:=nb 11 (by kernel_rfl)
     have n13:=nb 13 (by kernel_rfl)
     have a1:=a1 g2
     refine ⟨⟨F8 (.vw z (l.map uA)) (.vw zm (m.map uA)) (.sc (.int .i64 (3 * j:Nat))) w (up y 47 (.sl 7 c' 0 c.strs.length)),H8 w c ⟨#[UInt8.ofNat x2]⟩ c' true false false,(c'+1)⟩,.inl (stepV ?_),(up y 47 (.sl 7 c' 0 c.strs.length)),c',(c'+1),?_⟩
     ·simp only [F8]
      simp (maxSteps:=10000000) only [mkT,lkT,Nat.reduceAdd,Nat.reduceEqDiff,↓reduceIte,Nat.zero_add]
      simp (maxSteps:=10000000) +contextual -implicitDefEqProofs only [bnC,bnS,St.put,↓reduceIte,Nat.reduceAdd,Nat.reduceEqDiff,Int.reduceLT,Nat.reduceLT,bnT,Int.reduceAdd,bnH,codeV,codeH,zeV,allSz_stA,ts,zs,opM_call_,H8,up,n11,n13,a1,gi]
     ·refine ⟨?_,?_,?_,?_,?_,?_,?_,?_,?_,?_,?_,?_,?_,?_⟩ <;> simp only [hset,hst,up,Nat.reduceEqDiff,↓reduceIte,if_true,if_false,reduceCtorEq,n11,n13,a1,gi]
      all_goals first | rfl | assumption | (intro _; rfl) | (intro _ _; rfl) | exact fun h=>absurd h (by decide) | exact fun _ h=>absurd h (by decide) | (intros; trivial) | exact fun h _=>a2 h n11 | exact fun _ _=>a2 hq2 n11 | skip
    ·skip
     refine ⟨⟨F8 (.vw z (l.map uA)) (.vw zm (m.map uA)) (.sc (.int .i64 (3 * j:Nat))) w (up y 48 (.vw zm (m.map uA))),H8 w c ⟨#[UInt8.ofNat x2]⟩ v (L 2) (L 11) (L 13),c'⟩,.inl (stepV ?_),(up y 48 (.vw zm (m.map uA))),v,c',?_⟩
     ·simp only [F8]
      simp (maxSteps:=10000000) only [mkT,lkT,Nat.reduceAdd,Nat.reduceEqDiff,↓reduceIte,Nat.zero_add]
      simp (maxSteps:=10000000) +contextual -implicitDefEqProofs only [bnC,bnS,St.put,↓reduceIte,Nat.reduceAdd,Nat.reduceEqDiff,Int.reduceAdd,bnH,codeV,codeH,zeV,opM_move_,H8,up]
     ·refine ⟨?_,?_,?_,?_,?_,?_,?_,?_,?_,?_,?_,?_,?_,?_⟩ <;> simp only [hset,hst,up,Nat.reduceEqDiff,↓reduceIte,if_true,if_false,reduceCtorEq]
      all_goals first | rfl | assumption | (intro _; rfl) | (intro _ _; rfl) | exact fun h=>absurd h (by decide) | exact fun _ h=>absurd h (by decide) | (intros; trivial) | exact fun h _=>a2 h n11 | exact fun _ _=>a2 hq2 n11 | skip
    ·skip
     refine ⟨⟨F8 (.vw z (l.map uA)) (.vw zm (m.map uA)) (.sc (.int .i64 (3 * j:Nat))) w (up y 49 (.sc (.int .i64 (3 * j:Nat)))),H8 w c ⟨#[UInt8.ofNat x2]⟩ v (L 2) (L 11) (L 13),c'⟩,.inl (stepV ?_),(up y 49 (.sc (.int .i64 (3 * j:Nat)))),v,c',?_⟩
     ·simp only [F8]
      simp (maxSteps:=10000000) only [mkT,lkT,Nat.reduceAdd,Nat.reduceEqDiff,↓reduceIte,Nat.zero_add]
      simp (maxSteps:=10000000) +contextual -implicitDefEqProofs only [bnC,bnS,St.put,↓reduceIte,Nat.reduceAdd,Nat.reduceEqDiff,Int.reduceAdd,bnH,codeV,codeH,zeV,opM_move_,H8,up]
     ·refine ⟨?_,?_,?_,?_,?_,?_,?_,?_,?_,?_,?_,?_,?_,?_⟩ <;> simp only [hset,hst,up,Nat.reduceEqDiff,↓reduceIte,if_true,if_false,reduceCtorEq]
      all_goals first | rfl | assumption | (intro _; rfl) | (intro _ _; rfl) | exact fun h=>absurd h (by decide) | exact fun _ h=>absurd h (by decide) | (intros; trivial) | exact fun h _=>a2 h n11 | exact fun _ _=>a2 hq2 n11 | skip
    ·have a4:=a4 g2
     refine ⟨⟨F8 (.vw z (l.map uA)) (.vw zm (m.map uA)) (.sc (.int .i64 (3 * j:Nat))) w (up y 50 (.sc (.int .i64 (3 * j+2:Nat)))),H8 w c ⟨#[UInt8.ofNat x2]⟩ v (L 2) (L 11) (L 13),c'⟩,.inl (stepV ?_),(up y 50 (.sc (.int .i64 (3 * j+2:Nat)))),v,c',?_⟩
     ·simp only [F8]
      simp (maxSteps:=10000000) only [mkT,lkT,Nat.reduceAdd,Nat.reduceEqDiff,↓reduceIte,Nat.zero_add]
      simp (maxSteps:=10000000) +contextual -implicitDefEqProofs only [bnC,bnS,St.put,↓reduceIte,Nat.reduceAdd,Nat.reduceEqDiff,Int.reduceAdd,bnH,codeV,codeH,zeV,w2,opM_binOp_,H8,up,a4]
     ·refine ⟨?_,?_,?_,?_,?_,?_,?_,?_,?_,?_,?_,?_,?_,?_⟩ <;> simp only [hset,hst,up,Nat.reduceEqDiff,↓reduceIte,if_true,if_false,reduceCtorEq,a4]
      all_goals first | rfl | assumption | (intro _; rfl) | (intro _ _; rfl) | exact fun h=>absurd h (by decide) | exact fun _ h=>absurd h (by decide) | (intros; trivial) | exact fun h _=>a2 h n11 | exact fun _ _=>a2 hq2 n11 | skip
    ·have a3:=a3 g2.1
     have a5:=a5 g2.2
     refine ⟨⟨F8 (.vw z (l.map uA)) (.vw zm (m.map uA)) (.sc (.int .i64 (3 * j:Nat))) w (up y 51 (.vp (m.map uA) (3 * j+2) 0)),H8 w c ⟨#[UInt8.ofNat x2]⟩ v (L 2) (L 11) (L 13),c'⟩,.inl (stepV ?_),(up y 51 (.vp (m.map uA) (3 * j+2) 0)),v,c',?_⟩
     ·simp only [F8]
      simp (maxSteps:=10000000) only [mkT,lkT,Nat.reduceAdd,Nat.reduceEqDiff,↓reduceIte,Nat.zero_add]
      simp (maxSteps:=10000000) +contextual -implicitDefEqProofs only [bnC,bnS,St.put,↓reduceIte,Nat.reduceAdd,Nat.reduceEqDiff,bnT,Int.reduceAdd,bnH,codeV,codeH,zeV,h1,allSz_uA,opM_indexAddr_,H8,up,a3,a5]
     ·refine ⟨?_,?_,?_,?_,?_,?_,?_,?_,?_,?_,?_,?_,?_,?_⟩ <;> simp only [hset,hst,up,Nat.reduceEqDiff,↓reduceIte,if_true,if_false,reduceCtorEq,a3,a5]
      all_goals first | rfl | assumption | (intro _; rfl) | (intro _ _; rfl) | exact fun h=>absurd h (by decide) | exact fun _ h=>absurd h (by decide) | (intros; trivial) | exact fun h _=>a2 h n11 | exact fun _ _=>a2 hq2 n11 | skip
    ·have a6:=a6 g2
     refine ⟨⟨F8 (.vw z (l.map uA)) (.vw zm (m.map uA)) (.sc (.int .i64 (3 * j:Nat))) w (up y 52 (.sc (.int .u8 x2))),H8 w c ⟨#[UInt8.ofNat x2]⟩ v (L 2) (L 11) (L 13),c'⟩,.inl (stepV ?_),(up y 52 (.sc (.int .u8 x2))),v,c',?_⟩
     ·simp only [F8]
      simp (maxSteps:=10000000) only [mkT,lkT,Nat.reduceAdd,Nat.reduceEqDiff,↓reduceIte,Nat.zero_add]
      simp (maxSteps:=10000000) +contextual -implicitDefEqProofs only [bnC,bnS,St.put,↓reduceIte,Nat.reduceAdd,Nat.reduceEqDiff,bnT,Int.reduceAdd,bnH,AV.noref,codeV,codeH,zeV,d2,e2,uA_eq,get_mapN,opM_load_,H8,up,a6]
     ·refine ⟨?_,?_,?_,?_,?_,?_,?_,?_,?_,?_,?_,?_,?_,?_⟩ <;> simp only [hset,hst,up,Nat.reduceEqDiff,↓reduceIte,if_true,if_false,reduceCtorEq,a6]
      all_goals first | rfl | assumption | (intro _; rfl) | (intro _ _; rfl) | exact fun h=>absurd h (by decide) | exact fun _ h=>absurd h (by decide) | (intros; trivial) | exact fun h _=>a2 h n11 | exact fun _ _=>a2 hq2 n11 | skip
    ·have n11:=nb 11 (by kernel_rfl)
     have n13:=nb 13 (by kernel_rfl)
     have a7:=a7 g2
     cases hq2:L 2
     ·refine ⟨⟨F8 (.vw z (l.map uA)) (.vw zm (m.map uA)) (.sc (.int .i64 (3 * j:Nat))) w (up y 53 (.vw false [.sc (.int .u8 x2)])),H8 w c ⟨#[UInt8.ofNat x2]⟩ v (L 2) false false,(c'+1)⟩,.inl (stepV ?_),(up y 53 (.vw false [.sc (.int .u8 x2)])),v,(c'+1),?_⟩
      ·simp only [F8]
       simp (maxSteps:=10000000) only [mkT,lkT,Nat.reduceAdd,Nat.reduceEqDiff,↓reduceIte,Nat.zero_add]
       simp (maxSteps:=10000000) +contextual -implicitDefEqProofs only [bnC,bnS,St.put,↓reduceIte,Nat.reduceAdd,Nat.reduceLeDiff,Nat.reduceEqDiff,Nat.reduceMul,Int.reduceLT,Nat.reduceLT,bnT,Int.reduceAdd,Int.reduceMul,bnH,norefs,AV.noref,codeV,codeH,zeV,H8,up,n11,n13,a7,hq2]
      ·refine ⟨?_,?_,?_,?_,?_,?_,?_,?_,?_,?_,?_,?_,?_,?_⟩ <;> simp only [hset,hst,up,Nat.reduceEqDiff,↓reduceIte,if_true,if_false,reduceCtorEq,n11,n13,a7,hq2]
       all_goals first | rfl | assumption | (intro _; rfl) | (intro _ _; rfl) | exact fun h=>absurd h (by decide) | exact fun _ h=>absurd h (by decide) | (intros; trivial) | exact fun h _=>a2 h n11 | exact fun _ _=>a2 hq2 n11 | skip
     ·refine ⟨⟨F8 (.vw z (l.map uA)) (.vw zm (m.map uA)) (.sc (.int .i64 (3 * j:Nat))) w (up y 53 (.vw false [.sc (.int .u8 x2)])),H8 w c ⟨#[UInt8.ofNat x2]⟩ v (L 2) false false,(c'+1)⟩,.inl (stepV ?_),(up y 53 (.vw false [.sc (.int .u8 x2)])),v,(c'+1),?_⟩
      ·simp only [F8]
       simp (maxSteps:=10000000) only [mkT,lkT,Nat.reduceAdd,Nat.reduceEqDiff,↓reduceIte,Nat.zero_add]
       simp (maxSteps:=10000000) +contextual -implicitDefEqProofs only [bnC,bnS,St.put,↓reduceIte,Nat.reduceAdd,Nat.reduceLeDiff,Nat.reduceEqDiff,Nat.reduceMul,Int.reduceLT,Nat.reduceLT,bnT,Int.reduceAdd,Int.reduceMul,bnH,norefs,AV.noref,codeV,codeH,zeV,H8,up,n11,n13,a7,hq2]
      ·refine ⟨?_,?_,?_,?_,?_,?_,?_,?_,?_,?_,?_,?_,?_,?_⟩ <;> simp only [hset,hst,up,Nat.reduceEqDiff,↓reduceIte,if_true,if_false,reduceCtorEq,n11,n13,a7,hq2]
       all_goals first | rfl | assumption | (intro _; rfl) | (intro _ _; rfl) | exact fun h=>absurd h (by decide) | exact fun _ h=>absurd h (by decide) | (intros; trivial) | exact fun h _=>a2 h n11 | exact fun _ _=>a2 hq2 n11 | skip
    ·have a8:=a8 g2
     refine ⟨⟨F8 (.vw z (l.map uA)) (.vw zm (m.map uA)) (.sc (.int .i64 (3 * j:Nat))) w (up y 54 (stA ⟨#[UInt8.ofNat x2]⟩)),H8 w c ⟨#[UInt8.ofNat x2]⟩ v (L 2) (L 11) (L 13),c'⟩,.inr ⟨22,9,.tmp 53,5,false,[(x2:Int)],rfl,rfl,by kernel_rfl,by kernel_rfl,by kernel_rfl,by simp,?_,?_⟩,(up y 54 (stA ⟨#[UInt8.ofNat x2]⟩)),v,c',?_⟩
     ·simp only [F8]
      simp (maxSteps:=10000000) only [mkT,lkT,Nat.reduceAdd,Nat.reduceEqDiff,↓reduceIte,Nat.zero_add]
      simp (maxSteps:=10000000) +contextual -implicitDefEqProofs only [bnC,bnS,a8]
     ·simp only [F8,St.put,up]
      simp (maxSteps:=10000000) only [mkT,lkT,Nat.reduceAdd,Nat.reduceEqDiff,↓reduceIte,Nat.zero_add]
      simp (maxSteps:=10000000) +contextual -implicitDefEqProofs only [bnC,bnS,Nat.reduceAdd,Int.reduceAdd,codeV,codeH,zeV,H8,a8,hst,stA]
     ·refine ⟨?_,?_,?_,?_,?_,?_,?_,?_,?_,?_,?_,?_,?_,?_⟩ <;> simp only [hset,hst,up,Nat.reduceEqDiff,↓reduceIte,if_true,if_false,reduceCtorEq,a8]
      all_goals first | rfl | assumption | (intro _; rfl) | (intro _ _; rfl) | exact fun h=>absurd h (by decide) | exact fun _ h=>absurd h (by decide) | (intros; trivial) | exact fun h _=>a2 h n11 | exact fun _ _=>a2 hq2 n11 | skip
    ·have n11:=nb 11 (by kernel_rfl)
     have n13:=nb 13 (by kernel_rfl)
     have a9:=a9 g2
     cases hq2:L 2
     ·refine ⟨⟨F8 (.vw z (l.map uA)) (.vw zm (m.map uA)) (.sc (.int .i64 (3 * j:Nat))) w (up y 55 (.vw false [stA ⟨#[UInt8.ofNat x2]⟩])),H8 w c ⟨#[UInt8.ofNat x2]⟩ v (L 2) false false,(c'+1)⟩,.inl (stepV ?_),(up y 55 (.vw false [stA ⟨#[UInt8.ofNat x2]⟩])),v,(c'+1),?_⟩
      ·simp only [F8]
       simp (maxSteps:=10000000) only [mkT,lkT,Nat.reduceAdd,Nat.reduceEqDiff,↓reduceIte,Nat.zero_add]
       simp (maxSteps:=10000000) +contextual -implicitDefEqProofs only [bnC,bnS,St.put,↓reduceIte,Nat.reduceAdd,Nat.reduceLeDiff,Nat.reduceEqDiff,Nat.reduceMul,Int.reduceLT,Nat.reduceLT,bnT,Int.reduceAdd,Int.reduceMul,bnH,stA_eq,norefs,AV.noref,codeV,codeH,zeV,H8,up,n11,n13,a9,hq2]
      ·refine ⟨?_,?_,?_,?_,?_,?_,?_,?_,?_,?_,?_,?_,?_,?_⟩ <;> simp only [hset,hst,up,Nat.reduceEqDiff,↓reduceIte,if_true,if_false,reduceCtorEq,n11,n13,a9,hq2]
       all_goals first | rfl | assumption | (intro _; rfl) | (intro _ _; rfl) | exact fun h=>absurd h (by decide) | exact fun _ h=>absurd h (by decide) | (intros; trivial) | exact fun h _=>a2 h n11 | exact fun _ _=>a2 hq2 n11 | skip
     ·refine ⟨⟨F8 (.vw z (l.map uA)) (.vw zm (m.map uA)) (.sc (.int .i64 (3 * j:Nat))) w (up y 55 (.vw false [stA ⟨#[UInt8.ofNat x2]⟩])),H8 w c ⟨#[UInt8.ofNat x2]⟩ v (L 2) false false,(c'+1)⟩,.inl (stepV ?_),(up y 55 (.vw false [stA ⟨#[UInt8.ofNat x2]⟩])),v,(c'+1),?_⟩
      ·simp only [F8]
       simp (maxSteps:=10000000) only [mkT,lkT,Nat.reduceAdd,Nat.reduceEqDiff,↓reduceIte,Nat.zero_add]
       simp (maxSteps:=10000000) +contextual -implicitDefEqProofs only [bnC,bnS,St.put,↓reduceIte,Nat.reduceAdd,Nat.reduceLeDiff,Nat.reduceEqDiff,Nat.reduceMul,Int.reduceLT,Nat.reduceLT,bnT,Int.reduceAdd,Int.reduceMul,bnH,stA_eq,norefs,AV.noref,codeV,codeH,zeV,H8,up,n11,n13,a9,hq2]
      ·refine ⟨?_,?_,?_,?_,?_,?_,?_,?_,?_,?_,?_,?_,?_,?_⟩ <;> simp only [hset,hst,up,Nat.reduceEqDiff,↓reduceIte,if_true,if_false,reduceCtorEq,n11,n13,a9,hq2]
       all_goals first | rfl | assumption | (intro _; rfl) | (intro _ _; rfl) | exact fun h=>absurd h (by decide) | exact fun _ h=>absurd h (by decide) | (intros; trivial) | exact fun h _=>a2 h n11 | exact fun _ _=>a2 hq2 n11 | skip
    ·have n13:=nb 13 (by kernel_rfl)
     have a2:=a2 g2.1 gi
     have a10:=a10 g2.2.1
     have q2:=g2.1
     refine ⟨⟨F8 (.vw z (l.map uA)) (.vw zm (m.map uA)) (.sc (.int .i64 (3 * j:Nat))) w (up y 56 (.sl 7 c' 0 (c.strs.length+1))),H8 w c ⟨#[UInt8.ofNat x2]⟩ c' true true false,(c'+1)⟩,.inl (stepV ?_),(up y 56 (.sl 7 c' 0 (c.strs.length+1))),c',(c'+1),?_⟩
     ·simp only [F8]
      simp (maxSteps:=10000000) only [mkT,lkT,Nat.reduceAdd,Nat.reduceEqDiff,↓reduceIte,Nat.zero_add]
      simp (maxSteps:=10000000) +contextual -implicitDefEqProofs only [bnC,bnS,St.put,↓reduceIte,Nat.reduceAdd,Nat.reduceEqDiff,Int.reduceLT,Nat.reduceLT,bnT,Int.reduceAdd,bnH,stA_eq,norefs,AV.noref,codeV,codeH,zeV,ts,zs1,opM_call_,H8,up,n13,a2,a10,q2,gi,List.map_append]
     ·refine ⟨?_,?_,?_,?_,?_,?_,?_,?_,?_,?_,?_,?_,?_,?_⟩ <;> simp only [hset,hst,up,Nat.reduceEqDiff,↓reduceIte,if_true,if_false,reduceCtorEq,n13,a2,a10,q2,gi]
      all_goals first | rfl | assumption | (intro _; rfl) | (intro _ _; rfl) | exact fun h=>absurd h (by decide) | exact fun _ h=>absurd h (by decide) | (intros; trivial) | exact fun h _=>a2 h n11 | exact fun _ _=>a2 hq2 n11 | skip
    ·skip
     refine ⟨⟨F8 (.vw z (l.map uA)) (.vw zm (m.map uA)) (.sc (.int .i64 (3 * j:Nat))) w (up y 57 (.pt 6 w 0 1)),H8 w c ⟨#[UInt8.ofNat x2]⟩ v (L 2) (L 11) (L 13),c'⟩,.inl (stepV ?_),(up y 57 (.pt 6 w 0 1)),v,c',?_⟩
     ·simp only [F8]
      simp (maxSteps:=10000000) only [mkT,lkT,Nat.reduceAdd,Nat.reduceEqDiff,↓reduceIte,Nat.zero_add]
      simp (maxSteps:=10000000) +contextual -implicitDefEqProofs only [bnC,bnS,St.put,↓reduceIte,reduceCtorEq,Nat.reduceAdd,Nat.reduceEqDiff,bnT,Int.reduceAdd,bnH,codeV,codeH,zeV,opM_fieldAddr_,H8,up]
     ·refine ⟨?_,?_,?_,?_,?_,?_,?_,?_,?_,?_,?_,?_,?_,?_⟩ <;> simp only [hset,hst,up,Nat.reduceEqDiff,↓reduceIte,if_true,if_false,reduceCtorEq]
      all_goals first | rfl | assumption | (intro _; rfl) | (intro _ _; rfl) | exact fun h=>absurd h (by decide) | exact fun _ h=>absurd h (by decide) | (intros; trivial) | exact fun h _=>a2 h n11 | exact fun _ _=>a2 hq2 n11 | skip
    ·have g12:L 12=true:=by simp_all
     have q11:L 11=true:=hbf _ 12 (by kernel_rfl) g12
     have q2:L 2=true:=hbf _ 12 (by kernel_rfl) g12
     have a11:=a11 q11
     have a12:=a12 g12
     refine ⟨⟨F8 (.vw z (l.map uA)) (.vw zm (m.map uA)) (.sc (.int .i64 (3 * j:Nat))) w y,H8 w c ⟨#[UInt8.ofNat x2]⟩ v true true true,c'⟩,.inl (stepV ?_),y,v,c',?_⟩
     ·simp only [F8]
      simp (maxSteps:=10000000) only [mkT,lkT,Nat.reduceAdd,Nat.reduceEqDiff,↓reduceIte,Nat.zero_add]
      simp (maxSteps:=10000000) +contextual -implicitDefEqProofs only [bnC,bnS,St.put,↓reduceIte,Nat.reduceAdd,Nat.reduceLeDiff,Int.reduceLT,Nat.reduceLT,bnT,Int.reduceAdd,bnH,codeV,codeH,zeV,opM_store_,H8,q11,a11,a12,gi]
     ·refine ⟨?_,?_,?_,?_,?_,?_,?_,?_,?_,?_,?_,?_,?_,?_⟩ <;> simp only [hset,hst,up,Nat.reduceEqDiff,↓reduceIte,if_true,if_false,reduceCtorEq,q11,q2,a11,a12,gi]
      all_goals first | rfl | assumption | (intro _; rfl) | (intro _ _; rfl) | exact fun h=>absurd h (by decide) | exact fun _ h=>absurd h (by decide) | (intros; trivial) | exact fun h _=>a2 h n11 | exact fun _ _=>a2 hq2 n11 | skip
  ·refine ⟨fun _=>.jk,cnt,cnt,⟨rfl,?_,?_,?_,?_,?_,?_,?_,?_,?_,?_,?_,?_,?_⟩⟩
   all_goals (intro h; simp at h)
  ·rintro s' ⟨y,v,c',rfl⟩
   refine vc_go ?_
   simp only [F8]
   simp (maxSteps:=10000000) only [mkT,lkT,Nat.reduceAdd,Nat.reduceEqDiff,↓reduceIte,Nat.zero_add]
   simp (maxSteps:=10000000) +contextual -implicitDefEqProofs only [bnC,bnS,St.put,↓reduceIte,reduceCtorEq,bnT,bnH,codeH,zeV,w3,b0,H8]
   simp only [Nat.reduceEqDiff,↓reduceIte] at hC
   refine go_weak (T':=caT (.vw z (l.map uA)) (.vw zm (m.map uA)) (.sc (.int .i64 (3 * (j+1):Nat))) 0 w 6 w) (by simp (maxSteps:=10000000) only [bnC,bnS,↓reduceIte,reduceCtorEq,Nat.reduceAdd,Nat.reduceEqDiff,mkT,lkT,caT]) (weakH_refl _) (Nat.le_refl _) ?_
   refine go_can C (fun i=>[0,1,7,3,4,5,6].getD i 0) (fun i=>[w,w,v,w,w,w,w].getD i 0) q0 q1 rfl (by decide) ⟨⟨_,by first | rfl | (rw [←hC]; rfl)⟩,⟨_,by first | rfl | (rw [←hC]; rfl)⟩,⟨_,by first | rfl | (rw [←hC]; rfl)⟩,⟨_,by first | rfl | (rw [←hC]; rfl)⟩,⟨_,by first | rfl | (rw [←hC]; rfl)⟩,⟨_,by first | rfl | (rw [←hC]; rfl)⟩,⟨_,by rw [←hC]; simp only [cdV,List.length_append]; rfl⟩⟩ (ih _ _ _ hCo (by rw [←hC]; exact hp) hres)
end Go.Proofs.YtdjpkhjaibdogaaGreat
