/-
  Lemmas towards ModesFaults (joined texts: FH, FI, EB, EC).
  Conditions: none.
-/
import Derived.Test.YtdjpkhjaibdogaaGreatK01
import Derived.Test.YtdjpkhjaibdogaaGreatK29
import Derived.Test.YtdjpkhjaibdogaaGreatK02
import Derived.Test.YtdjpkhjaibdogaaGreatK27
import Derived.Test.YtdjpkhjaibdogaaGreatK18
import Derived.Test.YtdjpkhjaibdogaaGreatK28
set_option linter.unusedSimpArgs false
set_option linter.unusedVariables false
set_option maxRecDepth 100000
set_option maxHeartbeats 8000000
namespace Go.Proofs.YtdjpkhjaibdogaaGreat
open Go Go.SX
def D6 (x:Int):Prop:=-2147483647≤x∧x≤2147483647
structure EnvI (c:Cd) (v:Vn):Prop where
 ll:(v.left.length:Int)=c.tim
 lf:∀ x ∈ v.left,0≤x∧x≤2147483647
 p:0≤v.pl'∧v.pl'≤2147483647
 b:0≤v.ba∧v.ba≤2147483647
structure MOk (c:Cd) (m:Ms):Prop where
 r:Rch c m.pc m.st.length
 st:∀ x ∈ m.st,D6 x
 va:∀ x ∈ m.va,D6 x
 vl:m.va.length=c.vars.length
theorem IF {c:Cd} (h:Be c=0):Good c:=Alp (H6 h).2.2.2.2
theorem JC {c:Cd} (h:Be c=0) {k:Nat} (hk:k < c.ins.length):insP c (c.ins.getD k default)=false∧tgP c (c.ins.getD k default)=false:=by
 obtain ⟨_,h1,h2,_⟩:=H6 h
 have hm:=CM hk
 simp only [IT,J6,J7,lx97,GY] at h1
 simp only [G8,AH,J6,lx97,GY] at h2
 exact ⟨h1.2 _ hm,h2.1 _ hm⟩
theorem Acj {c:Cd} (h:Be c=0) {e:En} (he:e ∈ c.ens):0≤e.pc∧e.pc < c.ins.length:=by
 obtain ⟨_,_,h2,_⟩:=H6 h
 simp only [G8,AH,J6,lx97,GY] at h2
 have:=h2.2 _ he
 simp only [tgB,Hj] at this
 rw [Du] at this
 omega
theorem Tu {c:Cd} (h:Be c=0) {i n:Int} (r:Rch c i n):0≤i:=by
 induction r with
 | ent he=>exact (Acj h he).1
 | @step i n j n' r hi ho hs ih=>
  obtain ⟨k,rfl⟩:=IL ih
  have hx:=(JC h (k:=k) (by omega)).2
  have hx':tgP c (AF c (k:Int))=false:=hx
  have ja:Eg (AF c (k:Int)).op=true→0≤(AF c (k:Int)).a:=fun hj=>by
   simp only [tgP,hj,Kw,Hj] at hx'
   rw [Du] at hx'
   exact hx'.1
  unfold Bz at hs
  split at hs
  ·simp at hs
  ·split at hs
   ·rename_i h12
    simp only [lx59,lx121,GH,lx40] at hs
    rw [hs.1]; exact ja (by simp [Eg,h12])
   ·split at hs
    ·rename_i h13
     simp only [lx59,lx121,GH,lx40] at hs
     rcases hs with hs | hs
     ·omega
     ·rw [hs.1]; exact ja (by simp [Eg,h13])
    ·split at hs
     ·rename_i h14
      simp only [lx59,lx121,GH,lx40] at hs
      rcases hs with hs | hs
      ·omega
      ·rw [hs.1]; exact ja (by simp [Eg,h14])
     ·simp only [lx59,lx121,GH,lx40] at hs
      omega
theorem Ass (op:Int):(tkO op:Int)=(B6 op).1:=by
 rcases Gk op with (rfl | rfl | rfl | rfl | rfl | rfl | rfl | rfl | rfl | rfl | rfl | rfl | rfl | rfl | rfl | rfl | rfl | rfl | rfl | rfl | rfl | rfl | rfl | rfl | rfl | rfl | rfl | rfl | rfl | rfl | rfl) | h
 rotate_right
 ·have g:∀ k:Int,1≤k→k≤31→(op=k)=False:=fun k h1 h2=>by have:=h k h1 h2; simpa using this
  simp [tkO,B6,g]
 all_goals decide
theorem WH {m:Ms} (h:∀ x ∈ m.st,D6 x) (h0:0 < m.st.length):D6 (Hb m):=by
 refine h _ ?_
 unfold Hb
 have:=CM (l:=m.st) (i:=m.st.length - 1) (by omega)
 exact this
theorem Fk {st:List Int} {n:Int} (h:∀ x ∈ st,D6 x) (hn:D6 n):∀ x ∈ st++[n],D6 x:=fun x hx=>by
 rcases lx76.1 hx with hx | hx
 ·exact h x hx
 ·simp only [lx59,lx121,GH] at hx; rw [hx]; exact hn
theorem Aad (k a:Int):D6 (Tl k a):=by
 have:=GG a
 unfold Tl D6 Gr
 repeat' split
 all_goals omega
theorem Gm (b:Bool):D6 (Gr b):=by cases b <;> (unfold D6 Gr; decide)
theorem MM (a:Int):D6 (AM a):=GG a
theorem Amh {x y m:Int} (h1:-m≤x) (h2:x≤m):-m≤x.tmod y∧x.tmod y≤m:=by
 have h:(x.tmod y).natAbs=x.natAbs % y.natAbs:=Int.natAbs_tmod x y
 have h':=Nat.mod_le x.natAbs y.natAbs
 generalize x.natAbs % y.natAbs=q at *
 omega
theorem Ai2 (k a b:Int):D6 (CK k a b):=by
 have ha:=GG a
 by_cases h12:k=12
 ·rw [CK,if_pos h12]
  exact MM _
 by_cases h13:k=13
 ·rw [CK,if_neg h12,if_pos h13]
  split
  ·exact ⟨by decide,by decide⟩
  ·exact Aa8 ha.1 ha.2
 by_cases h14:k=14
 ·rw [CK,if_neg h12,if_neg h13,if_pos h14]
  split
  ·exact ⟨by decide,by decide⟩
  ·exact Amh ha.1 ha.2
 by_cases h15:k=15
 ·rw [CK,if_neg h12,if_neg h13,if_neg h14,if_pos h15]
  exact MM _
 by_cases h16:k=16
 ·rw [CK,if_neg h12,if_neg h13,if_neg h14,if_neg h15,if_pos h16]
  exact MM _
 by_cases h17:k=17
 ·rw [CK,if_neg h12,if_neg h13,if_neg h14,if_neg h15,if_neg h16,if_pos h17]
  exact Gm _
 by_cases h18:k=18
 ·rw [CK,if_neg h12,if_neg h13,if_neg h14,if_neg h15,if_neg h16,if_neg h17,if_pos h18]
  exact Gm _
 by_cases h19:k=19
 ·rw [CK,if_neg h12,if_neg h13,if_neg h14,if_neg h15,if_neg h16,if_neg h17,if_neg h18,if_pos h19]
  exact Gm _
 by_cases h20:k=20
 ·rw [CK,if_neg h12,if_neg h13,if_neg h14,if_neg h15,if_neg h16,if_neg h17,if_neg h18,if_neg h19,if_pos h20]
  exact Gm _
 by_cases h21:k=21
 ·rw [CK,if_neg h12,if_neg h13,if_neg h14,if_neg h15,if_neg h16,if_neg h17,if_neg h18,if_neg h19,if_neg h20,if_pos h21]
  exact Gm _
 by_cases h22:k=22
 ·rw [CK,if_neg h12,if_neg h13,if_neg h14,if_neg h15,if_neg h16,if_neg h17,if_neg h18,if_neg h19,if_neg h20,if_neg h21,if_pos h22]
  exact Gm _
 by_cases h23:k=23
 ·rw [CK,if_neg h12,if_neg h13,if_neg h14,if_neg h15,if_neg h16,if_neg h17,if_neg h18,if_neg h19,if_neg h20,if_neg h21,if_neg h22,if_pos h23]
  exact Gm _
 by_cases h24:k=24
 ·rw [CK,if_neg h12,if_neg h13,if_neg h14,if_neg h15,if_neg h16,if_neg h17,if_neg h18,if_neg h19,if_neg h20,if_neg h21,if_neg h22,if_neg h23,if_pos h24]
  exact Gm _
 rw [CK,if_neg h12,if_neg h13,if_neg h14,if_neg h15,if_neg h16,if_neg h17,if_neg h18,if_neg h19,if_neg h20,if_neg h21,if_neg h22,if_neg h23,if_neg h24]
 exact ⟨by decide,by decide⟩
theorem Ai3 {c:Cd} {v:Vn} {m:Ms} (hv:Be c=0) (he:EnvI c v) (h:MOk c m) (hef:m.ef.length≤1000):StepQ c v m (AF c m.pc):=by
 have hl:=Cw hv
 have hp:=Tu hv h.r
 obtain ⟨f1,f2,f3⟩:=(IF hv).fits _ _ h.r
 have htk:=Ass (AF c m.pc).op
 have hk:m.pc.toNat < c.ins.length:=Ah
 have hx:insP c (AF c m.pc)=false:=(JC hv hk).1
 have hll:=he.ll
 have sp:Eg (AF c m.pc).op=false→(Dc c (AF c m.pc).op).1≤(AF c m.pc).a∧(AF c m.pc).a≤(Dc c (AF c m.pc).op).2:=fun hj=>by
  simp only [insP,hj,TO,Kw,Hj] at hx
  exact Du.1 hx
 refine ⟨hp,f1,rfl,hl.1,?_,?_,hef,?_,?_,?_,?_,?_,?_,?_,?_,?_⟩
 ·have:=f3.1; omega
 ·omega
 ·rw [h.vl]; omega
 ·omega
 ·omega
 ·rintro (h2 | h3)
  ·have:=sp (by simp [Eg,h2]); rw [h2] at this; simp [Dc] at this; rw [h.vl]; omega
  ·have:=sp (by simp [Eg,h3]); rw [h3] at this; simp [Dc] at this; rw [h.vl]; omega
 ·intro h4; have:=sp (by simp [Eg,h4]); rw [h4] at this; simp [Dc] at this; omega
 ·intro h5; have:=sp (by simp [Eg,h5]); rw [h5] at this; simp [Dc] at this; omega
 ·intro h6; have:=sp (by simp [Eg,h6]); rw [h6] at this; simp [Dc] at this; omega
 ·intro h29; have:=sp (by simp [Eg,h29]); rw [h29] at this; simp [Dc] at this; omega
 ·intro hne
  exact WH h.st (List.length_pos_iff.2 hne)
theorem Aae {c:Cd} {m:Ms} (hv:Be c=0) (h:MOk c m) (hj:Eg (AF c m.pc).op=false):(Dc c (AF c m.pc).op).1≤(AF c m.pc).a∧(AF c m.pc).a≤(Dc c (AF c m.pc).op).2:=by
 have hp:=Tu hv h.r
 obtain ⟨f1,f2,f3⟩:=(IF hv).fits _ _ h.r
 have hx:insP c (AF c m.pc)=false:=(JC hv (k:=m.pc.toNat) (by omega)).1
 simp only [insP,hj,TO,Kw,Hj] at hx
 exact Du.1 hx
theorem Ami (y:Int):DE .and .u64 y 1=0∨DE .and .u64 y 1=1:=by
 have h:(BitVec.ofInt 64 y &&& BitVec.ofInt 64 1).toNat=(BitVec.ofInt 64 y).toNat % 2:=by rw [BitVec.toNat_and,show (BitVec.ofInt 64 1).toNat=1 from rfl,Nat.and_one_is_mod]
 have e:DE .and .u64 y 1=IntKind.u64.wrap (((BitVec.ofInt 64 y &&& BitVec.ofInt 64 1).toNat:Nat):Int):=rfl
 rw [e,h]
 rcases Qt (BitVec.ofInt 64 y).toNat with h | h <;> rw [h] <;> decide
theorem Amj (y:Int):DE .and .u32 y 1=0∨DE .and .u32 y 1=1:=by
 have h:(BitVec.ofInt 32 y &&& BitVec.ofInt 32 1).toNat=(BitVec.ofInt 32 y).toNat % 2:=by rw [BitVec.toNat_and,show (BitVec.ofInt 32 1).toNat=1 from rfl,Nat.and_one_is_mod]
 have e:DE .and .u32 y 1=IntKind.u32.wrap (((BitVec.ofInt 32 y &&& BitVec.ofInt 32 1).toNat:Nat):Int):=rfl
 rw [e,h]
 rcases Qt (BitVec.ofInt 32 y).toNat with h | h <;> rw [h] <;> decide
theorem XO (x a:Int):D6 (MJ .u64 x a):=by
 unfold MJ
 rcases Ami (He .u64 x a) with h | h <;> rw [h] <;> (unfold D6; decide)
theorem XP (x a:Int):D6 (MJ .u32 x a):=by
 unfold MJ
 rcases Amj (He .u32 x a) with h | h <;> rw [h] <;> (unfold D6; decide)
theorem WI {l:List Int} (h:∀ x ∈ l,D6 x) {a:Int} (h0:0≤a) (h1:a < l.length):D6 (l.getD a.toNat default):=h _ (CM (by omega))
theorem Amk {l:List Int} (h:∀ x ∈ l,D6 x) {k:Nat} {n:Int} (hn:D6 n):∀ x ∈ l.set k n,D6 x:=fun x hx=>by
 rcases List.mem_or_eq_of_mem_set hx with hx | hx
 ·exact h x hx
 ·rw [hx]; exact hn
theorem WJ {c:Cd} {v:Vn} {m:Ms} (hv:Be c=0) (he:EnvI c v) (h:MOk c m) (h31:(AF c m.pc).op≠31):MOk c (AO c v (AF c m.pc) m):=by
 have hp:=Tu hv h.r
 obtain ⟨f1,f2,f3⟩:=(IF hv).fits _ _ h.r
 have hsp:=Aae hv h
 have htk:=f3.1
 have hll:=he.ll
 have hnx:=fun j n (hs:(j,n) ∈ Bz (AF c m.pc) m.pc m.st.length)=>Rch.step h.r f1 f3 hs
 have hk:m.pc.toNat < c.ins.length:=Ah
 have hip:insP c (AF c m.pc)=false:=(JC hv hk).1
 obtain ⟨x,hx⟩:∃ x,AF c m.pc=x:=⟨_,rfl⟩
 rw [hx] at hsp htk hnx h31 hip ⊢
 obtain ⟨op,a⟩:=x
 simp only at hsp htk hnx h31
 obtain ⟨pc,dn,va,st,ef⟩:=m
 obtain ⟨_,h2,h3,h4⟩:=h
 simp only at hnx htk h2 h3 h4
 have hpop:∀ n,∀ x ∈ st.take n,D6 x:=fun n x hx=>h2 x (lx38 hx)
 have htop:0 < st.length→D6 (st.getD (st.length - 1) 0):=fun h0=>WH (m:=⟨pc,dn,va,st,ef⟩) h2 h0
 have hlf:∀ x ∈ v.left,D6 x:=fun x hx=>⟨by have:=(he.lf x hx).1; omega,(he.lf x hx).2⟩
 clear f1 f2 f3 hp hx hk
 have key:∀ pc' va' st' ef',Rch c pc' ((st':List Int).length:Nat)→(∀ x ∈ st',D6 x)→(∀ x ∈ va',D6 x)→(va':List Int).length=c.vars.length→MOk c ⟨pc',dn,va',st',ef'⟩:=fun _ _ _ _ g1 g2 g3 g4=>⟨g1,g2,g3,g4⟩
 rcases Gk op with (rfl | rfl | rfl | rfl | rfl | rfl | rfl | rfl | rfl | rfl | rfl | rfl | rfl | rfl | rfl | rfl | rfl | rfl | rfl | rfl | rfl | rfl | rfl | rfl | rfl | rfl | rfl | rfl | rfl | rfl | rfl) | hno
 ·
  refine Yq ?_
  refine key _ _ _ _ ?_ ?_ ?_ ?_
  ·have e:(((st++[a]:List Int).length:Nat):Int)=(st.length:Int) - 0+1:=by simp [lx5,lx68]
   exact IM
  ·exact Fk h2 (by have:=hsp (by decide); simp [Dc] at this; exact this)
  ·exact h3
  ·exact h4
 ·
  refine Yq ?_
  refine key _ _ _ _ ?_ ?_ ?_ ?_
  ·have e:(((st++[va.getD a.toNat default]:List Int).length:Nat):Int)=(st.length:Int) - 0+1:=by simp [lx5,lx68]
   exact IM
  ·exact Fk h2 (by have:=hsp (by decide); simp [Dc] at this; exact WI h3 this.1 (by omega))
  ·exact h3
  ·exact h4
 ·
  refine Yq ?_
  have ht:1≤st.length:=Om
  refine key _ _ _ _ ?_ ?_ ?_ ?_
  ·have e:(((st.take (st.length - 1):List Int).length:Nat):Int)=(st.length:Int) - 1+0:=by simp [lx5,lx68]; omega
   exact IM
  ·exact hpop _
  ·exact Amk h3 (htop ht)
  ·exact (by rw [lx2]; exact h4)
 ·
  refine Yq ?_
  refine key _ _ _ _ ?_ ?_ ?_ ?_
  ·have e:(((st++[MJ .u64 v.clo a]:List Int).length:Nat):Int)=(st.length:Int) - 0+1:=by simp [lx5,lx68]
   exact IM
  ·exact Fk h2 (XO _ _)
  ·exact h3
  ·exact h4
 ·
  refine Yq ?_
  refine key _ _ _ _ ?_ ?_ ?_ ?_
  ·have e:(((st++[MJ .u32 v.act a]:List Int).length:Nat):Int)=(st.length:Int) - 0+1:=by simp [lx5,lx68]
   exact IM
  ·exact Fk h2 (XP _ _)
  ·exact h3
  ·exact h4
 ·
  refine Yq ?_
  refine key _ _ _ _ ?_ ?_ ?_ ?_
  ·have e:(((st++[v.left.getD a.toNat default]:List Int).length:Nat):Int)=(st.length:Int) - 0+1:=by simp [lx5,lx68]
   exact IM
  ·exact Fk h2 (by have:=hsp (by decide); simp [Dc] at this; exact WI hlf this.1 (by omega))
  ·exact h3
  ·exact h4
 ·
  refine Yq ?_
  refine key _ _ _ _ ?_ ?_ ?_ ?_
  ·have e:(((st++[v.pl']:List Int).length:Nat):Int)=(st.length:Int) - 0+1:=by simp [lx5,lx68]
   exact IM
  ·exact Fk h2 (⟨by have:=he.p; omega,he.p.2⟩)
  ·exact h3
  ·exact h4
 ·
  refine Yq ?_
  refine key _ _ _ _ ?_ ?_ ?_ ?_
  ·have e:(((st++[v.ba]:List Int).length:Nat):Int)=(st.length:Int) - 0+1:=by simp [lx5,lx68]
   exact IM
  ·exact Fk h2 (⟨by have:=he.b; omega,he.b.2⟩)
  ·exact h3
  ·exact h4
 ·
  refine Yq ?_
  have ht:1≤st.length:=Om
  refine key _ _ _ _ ?_ ?_ ?_ ?_
  ·have e:(((st.take (st.length - 1)++[Tl 10 (st.getD (st.length - 1) 0)]:List Int).length:Nat):Int)=(st.length:Int) - 1+1:=by simp [lx5,lx68]; omega
   exact IM
  ·exact Fk (hpop _) (Aad _ _)
  ·exact h3
  ·exact h4
 ·
  refine Yq ?_
  have ht:1≤st.length:=Om
  refine key _ _ _ _ ?_ ?_ ?_ ?_
  ·have e:(((st.take (st.length - 1)++[Tl 11 (st.getD (st.length - 1) 0)]:List Int).length:Nat):Int)=(st.length:Int) - 1+1:=by simp [lx5,lx68]; omega
   exact IM
  ·exact Fk (hpop _) (Aad _ _)
  ·exact h3
  ·exact h4
 ·
  refine Yq ?_
  have ht:2≤st.length:=Om
  refine key _ _ _ _ ?_ ?_ ?_ ?_
  ·have e:((((st.take (st.length - 1)).take ((st.take (st.length - 1)).length - 1)++[CK a ((st.take (st.length - 1)).getD ((st.take (st.length - 1)).length - 1) 0) (st.getD (st.length - 1) 0)]:List Int).length:Nat):Int)=(st.length:Int) - 2+1:=by simp [lx5,lx68]; omega
   exact IM
  ·exact Fk (fun x hx=>hpop _ x (lx38 hx)) (Ai2 _ _ _)
  ·exact h3
  ·exact h4
 ·
  exact qc2
 ·
  refine Yq ?_
  have ht:1≤st.length:=Om
  have e:(((st.take (st.length - 1)).length:Nat):Int)=(st.length:Int) - 1:=by simp [lx68]; omega
  by_cases hz:st.getD (st.length - 1) 0=0
  ·exact Aqt
  ·exact Aqt
 ·
  refine Yq ?_
  have ht:1≤st.length:=Om
  have e:(((st.take (st.length - 1)).length:Nat):Int)=(st.length:Int) - 1:=by simp [lx68]; omega
  by_cases hz:st.getD (st.length - 1) 0≤0
  ·exact Aqt
  ·simp only [hz,↓reduceIte]
   have htp:=htop (by omega)
   refine key _ _ _ _ ?_ (Fk (hpop _) ⟨by omega,by have:=htp.2; omega⟩) h3 h4
   have e:(((st.take (st.length - 1)++[st.getD (st.length - 1) 0 - 1]).length:Nat):Int)=(st.length:Int):=by simp [lx5,lx68]; omega
   rw [e]; exact hnx _ _ (by simp [Bz])
 ·
  exact qc9
 ·
  exact qc2
 ·
  exact qc2
 ·
  exact qc2
 ·
  exact qc9
 ·
  refine Yq ?_
  have ht:2≤st.length:=Om
  refine key _ _ _ _ ?_ ?_ ?_ ?_
  ·have e:((((st.take (st.length - 1)).take ((st.take (st.length - 1)).length - 1):List Int).length:Nat):Int)=(st.length:Int) - 2+0:=by simp [lx5,lx68]; omega
   exact IM
  ·exact fun x hx=>hpop _ x (lx38 hx)
  ·exact h3
  ·exact h4
 ·
  exact qc9
 ·
  exact qc2
 ·
  exact qc2
 ·
  exact qc2
 ·
  exact qc2
 ·
  exact qc2
 ·
  exact qc2
 ·
  exact qc2
 ·
  exact qc9
 ·
  exact qc2
 ·exact absurd rfl h31
 ·exact Aud
end Go.Proofs.YtdjpkhjaibdogaaGreat
namespace Go.Proofs.YtdjpkhjaibdogaaGreat
open Go Go.SX
attribute [local congr] ite_congr
def DC (c:Cd) (v:Vn):Nat→Ms→Ms × Nat
 | 0,m=>(m,0)
 | f+1,m=>if m.dn=true∨256 < m.ef.length then (m,0) else ((DC c v f (AO c v (AF c m.pc) m)).1,(DC c v f (AO c v (AF c m.pc) m)).2+1)
structure ExeQ (c:Cd) (v:Vn) (at':Int):Prop where
 fit:Fit c
 env:Hg c v=true
 ent:∃ e ∈ c.ens,e.pc=at'
def LZ (v:Vn) (at':Int):Ms:=⟨at',false,v.vars,[],[]⟩
theorem Aml {c:Cd} {at':Int} (h:∃ e ∈ c.ens,e.pc=at'):c.ens.any (fun x=>x.pc == at')=true:=by
 obtain ⟨e,he,h1⟩:=h
 exact List.any_eq_true.2 ⟨e,he,by simp [h1]⟩
theorem XQ (c:Cd) (v:Vn) (at':Int) (h:ExeQ c v at') (B0 B1:Blk) (n:Nat):HSpec Tryz.prog 203 [B5 c,.sc (.int .i64 at'),Ma v,.sc (.int .i64 1000)] [B0,B1] n (.tu [.pt 6 (n+5) 0 0,.sc (.int .i64 0)])
  [B0,B1,dead,dead,dead,⟨true,n+4,3,1,v.vars.map (kA .i64),false⟩,⟨true,n+5,253,17,[.ag [.vw c.zi (c.ins.map BS),.vw c.zs (c.strs.map stA),.vw c.ze (c.ens.map DP),.vw c.zp (c.pri.map (kA .i64)),.vw c.zv (c.vars.map (kA .i64)),kA .i64 c.tim,kA .i64 c.evs,
   .sl 5 (n+4) 0 v.vars.length,.vw v.zl (v.left.map (kA .i64)),.sc (.int .u64 v.clo),.sc (.int .u32 v.act),kA .i64 v.pl',kA .i64 v.ba,kA .i64 at',bA false,.vw true [],.vw true []]],false⟩] (n+6):=by
 have hv:=H8 h.env
 have hln:=Cw hv
 have hq:=h.fit
 have E77:=e77 c v hq
 rw [h.env] at E77
 obtain ⟨F190,k190,E190⟩:=Fi (Ahe Azj (fun x=>x.pc == at') [kA .i64 at'] c.ze c.ens (fun x _=>Ber x at') (by omega))
 rw [Aml h.ent] at E190
 simp only [Ac,Bm,AB,AU] at E77 E190
 have hvl:v.vars.length≤1000000:=by
  have he:=h.env
  simp only [Hg,AH,lx85] at he
  have:=he.1.1.1.1.1.1.2
  omega
 obtain ⟨F54,k54,E54⟩:=D1 (LR v.zv v.vars [B0,B1,⟨true,n,36,7,[B5 c],false⟩,⟨true,n+1,3,1,[.sc (.int .i64 at')],false⟩,⟨true,n+1+1,104,6,[Ma v],false⟩] (n+1+1+1) hvl)
 simp only [Ac,Bm,AB,lx91,lx64,lx53,lx63,Nat.reduceAdd] at E54
 refine Ag (Am (lit:=false) (pm:=fun _=>none) (.cons Azb (.cons k190 .nil)) .nil .nil (.cons k54 .nil)) rfl Tryz.func203 rfl (by decide) (by kernel_rfl) ?_
 simp only [Tryz.f203,Af,lx53,lx63,Nat.reduceAdd,Nat.reduceSub,List.replicate]
 refine Aa ?_
 exact TH (a3 E77 E190 E54)
 all_goals done
theorem Ai4 {c:Cd} {m:Ms} (hv:Be c=0) (h:MOk c m):opI (AF c m.pc).op:=by
 have hp:=Tu hv h.r
 obtain ⟨f1,f2,f3⟩:=(IF hv).fits _ _ h.r
 have hip:insP c (AF c m.pc)=false:=(JC hv (k:=m.pc.toNat) (by omega)).1
 generalize AF c m.pc=x at hip
 obtain ⟨op,a⟩:=x
 rcases Gk op with ho | hno
 ·exact ho
 ·exfalso
  exact Aud
theorem Ast {c:Cd} {v:Vn} {m m':Ms} {w u s e w' u' s' e':Nat} {E E':List AV} (h:mH c v m w u s e E=mH c v m' w' u' s' e' E') (hE:E.take m.st.length=m.st.map (kA .i64)) (hE':E'.take m'.st.length=m'.st.map (kA .i64)):
  m=m'∧w=w'∧u=u'∧s=s'∧e=e'∧E=E':=by
 obtain ⟨pc,dn,va,st,ef⟩:=m
 obtain ⟨pc',dn',va',st',ef'⟩:=m'
 simp only [mH,kA,bA,lx96,Blk.mk.injEq,AV.ag.injEq,AV.sl.injEq,AV.sc.injEq,Value.int.injEq,Value.bool.injEq,Ay,D3] at h hE hE'
 obtain ⟨⟨rfl,⟨_,g1⟩,rfl,rfl,⟨_,g2⟩,_,g3⟩,⟨rfl,g4⟩,⟨rfl,g5⟩,rfl,g6⟩:=h
 obtain rfl:=(DX (f:=fun x=>AV.sc (.int .i64 x)) (fun _ _ h=>by simpa using h) g4:va=va')
 obtain rfl:=N6.1 g6
 subst g5
 rw [←g2,hE] at hE'
 obtain rfl:=(DX (f:=fun x=>AV.sc (.int .i64 x)) (fun _ _ h=>by simpa using h) hE':st=st')
 simp
def Azx (c:Cd) (v:Vn) (args:List AV) (H:List Blk) (cnt:Nat) (r:AV) (H':List Blk) (cnt':Nat):Prop:=
 ∀ (m:Ms) (w u s e:Nat) (E:List AV),args=[.pt 0 w 0 0]→H=mH c v m w u s e E→E.take m.st.length=m.st.map (kA .i64)→
  r=.tu []∧∃ s' e' E',H'=mH c v (AO c v (AF c m.pc) m) w u s' e' E'∧E'.take (AO c v (AF c m.pc) m).st.length=(AO c v (AF c m.pc) m).st.map (kA .i64)
noncomputable def f204 (c:Cd) (v:Vn):=hF Tryz.prog 204 (Azx c v)
theorem Azy (c:Cd) (v:Vn):Ql Tryz.prog 204 (f204 c v):=LU _ _ _
theorem Bf2 {c:Cd} {v:Vn} {m:Ms} (h:StepQ c v m (AF c m.pc)) (ho:opI (AF c m.pc).op) (w u s e:Nat) (E:List AV) (hE:E.take m.st.length=m.st.map (kA .i64)) (cnt:Nat):
  ∃ s' e' E' cnt',f204 c v [.pt 0 w 0 0] (mH c v m w u s e E) cnt=some (.tu [],mH c v (AO c v (AF c m.pc) m) w u s' e' E',cnt')∧E'.take (AO c v (AF c m.pc) m).st.length=(AO c v (AF c m.pc) m).st.map (kA .i64):=by
 obtain ⟨s',e',E',cnt',h1,h2⟩:=Ai1 c v m _ h ho w u s e E hE cnt
 obtain ⟨r,H',c',g1,g2⟩:=LV (D:=Azx c v) h1 (by
  intro m' w' u' s2 e2 E2 a1 a2 a3
  obtain ⟨rfl,rfl,rfl,rfl,rfl,rfl⟩:=Ast a2 hE a3
  exact ⟨rfl,s',e',E',rfl,h2⟩)
 obtain ⟨rfl,s3,e3,E3,rfl,k2⟩:=g2 m w u s e E rfl rfl hE
 exact ⟨s3,e3,E3,c',g1,k2⟩
def tLf (t:Tp) (k a:Nat):List In × Nat:=
 if k=1 then ((An t 1 a).1++[⟨15,0⟩],(An t 1 a).2)
 else if k=2 then ([⟨16+(Cn t a 3:Nat),(Cn t (Bb t a) 32:Nat)⟩],Bb t (Bb t a))
 else if k=3 then ((An t 0 a).1++[⟨19,(Cn t (An t 0 a).2 64:Nat)⟩],Bb t (An t 0 a).2)
 else if k=4 then ((An t 0 a).1++(An t 0 (An t 0 a).2).1++[⟨20,(Cn t (An t 0 (An t 0 a).2).2 64:Nat)⟩],Bb t (An t 0 (An t 0 a).2).2)
 else if k=5 then ((An t 1 a).1++[⟨21,(Cn t (An t 1 a).2 2:Nat)⟩],Bb t (An t 1 a).2)
 else if k=6 then ([⟨22,(Cn t a 2:Nat)⟩],Bb t a)
 else if k=7 then ([⟨23+(Cn t a 2:Nat),(Cn t (Bb t a) 2:Nat)⟩],Bb t (Bb t a))
 else if k=8 then ([⟨25,(Cn t a 2:Nat)⟩],Bb t a)
 else if k=9 then ([⟨26+(Cn t a 3:Nat),(Cn t (Bb t a) 64:Nat)⟩],Bb t (Bb t a))
 else if k=10 then ((An t 1 a).1++[⟨29,(Cn t (An t 1 a).2 2:Nat)⟩],Bb t (An t 1 a).2)
 else if k=11 then ([⟨30,0⟩],a)
 else ((An t 2 a).1++[⟨3,(Cn t (An t 2 a).2 3:Nat)⟩],Bb t (An t 2 a).2)
def BV (t:Tp):Nat→Nat→Nat→List In × Nat
 | 0,base,a=>tLf t (if 11 < Cn t a 15 then 0 else Cn t a 15) (Bb t a)
 | d+1,base,a=>
  if Cn t a 15=12 then
   let x:=An t 1 (Bb t a)
   let y:=BV t d (base+x.1.length+1) x.2
   (x.1++[⟨13,((base+x.1.length+1+y.1.length:Nat):Int)⟩]++y.1,y.2)
  else if Cn t a 15=13∨Cn t a 15=14 then
   let x:=An t 0 (Bb t a)
   let y:=BV t d (base+x.1.length+1) x.2
   (x.1++[⟨14,((base+x.1.length+2+y.1.length:Nat):Int)⟩]++y.1++[⟨12,((base+x.1.length:Nat):Int)⟩],y.2)
  else tLf t (Cn t a 15) (Bb t a)
theorem Cy {α:Type} {c:Prop} [Decidable c] {x y:α} {p:α→Prop} (h1:p x) (h2:p y):p (if c then x else y):=by split <;> assumption
theorem Ai5 {t:Tp} (ht:TpOk t) (k:Nat) {a:Nat} (h:a≤200):(tLf t k a).2≤200:=by
 unfold tLf
 refine Cy (p:=fun x:List In × Nat=>x.2≤200) ?_ (Cy (p:=fun x:List In × Nat=>x.2≤200) ?_ (Cy (p:=fun x:List In × Nat=>x.2≤200) ?_ (Cy (p:=fun x:List In × Nat=>x.2≤200) ?_ (Cy (p:=fun x:List In × Nat=>x.2≤200) ?_ (Cy (p:=fun x:List In × Nat=>x.2≤200) ?_ (Cy (p:=fun x:List In × Nat=>x.2≤200) ?_ (Cy (p:=fun x:List In × Nat=>x.2≤200) ?_ (Cy (p:=fun x:List In × Nat=>x.2≤200) ?_ (Cy (p:=fun x:List In × Nat=>x.2≤200) ?_ (Cy (p:=fun x:List In × Nat=>x.2≤200) ?_ ?_))))))))))
 all_goals dsimp only
 all_goals first | exact h | exact Bc ht h | exact Bc ht (Bc ht h) | exact CW (a:=a) ht 1 h | exact Bc ht (CW (a:=a) ht 0 h) | exact Bc ht (CW (a:=a) ht 1 h) | exact Bc ht (CW (a:=a) ht 2 h) | exact Bc ht (CW (a:=(An t 0 a).2) ht 0 (CW (a:=a) ht 0 h))
theorem Aaf (t:Tp) (k a:Nat):(tLf t k a).1.length≤8:=by
 have h0:=CN t 0 a
 have h1:=CN t 1 a
 have h2:=CN t 2 a
 have h3:=CN t 0 (An t 0 a).2
 unfold tLf
 refine Cy (p:=fun x:List In × Nat=>x.1.length≤8) ?_ (Cy (p:=fun x:List In × Nat=>x.1.length≤8) ?_ (Cy (p:=fun x:List In × Nat=>x.1.length≤8) ?_ (Cy (p:=fun x:List In × Nat=>x.1.length≤8) ?_ (Cy (p:=fun x:List In × Nat=>x.1.length≤8) ?_ (Cy (p:=fun x:List In × Nat=>x.1.length≤8) ?_ (Cy (p:=fun x:List In × Nat=>x.1.length≤8) ?_ (Cy (p:=fun x:List In × Nat=>x.1.length≤8) ?_ (Cy (p:=fun x:List In × Nat=>x.1.length≤8) ?_ (Cy (p:=fun x:List In × Nat=>x.1.length≤8) ?_ (Cy (p:=fun x:List In × Nat=>x.1.length≤8) ?_ ?_))))))))))
 all_goals simp only [lx5,lx53,lx63]
 all_goals omega
theorem Oa {t:Tp} (ht:TpOk t):∀ (d base:Nat) {a:Nat},a≤200→(BV t d base a).2≤200
 | 0,base,a,h=>Ai5 ht _ (Bc ht h)
 | d+1,base,a,h=>by
  rw [BV]
  split
  ·exact Oa ht d _ (CW (a:=Bb t a) ht 1 (Bc ht h))
  ·split
   ·exact Oa ht d _ (CW (a:=Bb t a) ht 0 (Bc ht h))
   ·exact Ai5 ht _ (Bc ht h)
theorem Ib (t:Tp):∀ (d base a:Nat),(BV t d base a).1.length≤8+4 * d
 | 0,base,a=>Aaf t _ _
 | d+1,base,a=>by
  have h0:=CN t 0 (Bb t a)
  have h1:=CN t 1 (Bb t a)
  rw [BV]
  split
  ·have:=Ib t d (base+(An t 1 (Bb t a)).1.length+1) (An t 1 (Bb t a)).2
   exact Ajy
  ·split
   ·have:=Ib t d (base+(An t 0 (Bb t a)).1.length+1) (An t 0 (Bb t a)).2
    exact Ajy
   ·have:=Aaf t (Cn t a 15) (Bb t a)
    omega
def IG (t:Tp) (base d a:Nat) (R:List Blk) (cnt:Nat) (X:List In × Nat):Prop:=
 ∃ P ver cnt',HSpec Tryz.prog 43 [.pt 0 t.v 0 0,.sc (.int .i64 (base:Int)),.sc (.int .i64 (d:Int))] (NH t a::R) cnt (.sl (R.length+P.length+1) ver 0 X.1.length) (NH t X.2::(R++(P++[PY ver X.1]))) cnt'
theorem sW {P:Prop} (h:P:=by
 refine Ag (Am (lit:=false) (pm:=fun _=>none) .nil .nil .nil (.cons Qq (.cons XN .nil))) rfl Tryz.func43 rfl (by decide) (by kernel_rfl) ?_
 refine qd6 ?_
 try cases c0
 all_goals refine Aa ?_
 all_goals simp (maxSteps:=10000000) +contextual -implicitDefEqProofs only [Bk,Bg,Ao,St.put,Ap,Al,D8,pl,Array.toList,lx6,lx7,↓reduceIte,reduceCtorEq,Nat.reduceAdd,Nat.reduceLeDiff,Nat.reduceEqDiff,Nat.reduceMul,Int.reduceEq,Int.reduceNe,Int.reduceLE,Int.reduceLT,ne_eq,Nat.reduceBEq,Nat.reduceLT,eq_self,Cu,lx8,D5,Qc,Int.reduceToNat,Nat.reduceSub,Int.reduceAdd,Int.reduceMul,Int.reduceSub,Dq,Fe,hl,AB,AU,AX,Cf,Dl,norefs,AV.noref,Cs,CQ,Int.reduceBNe,Int.reduceBEq,E0,E1,E2,E3,w9,hsz,hk1,htk,hma,Arh,BW,JB,Qr,WD,WE,WG,sc0,sc1,dl1,dl2,dl3,lx4,lx5]
 all_goals first | exact LW _ _ _ _ _ _ _ _ rfl | exact .refl _ | exact Jp _ _ | skip
 all_goals done):P:=h
theorem sA {P:Prop} (h:P:=by
 obtain ⟨X,y⟩:=V
 simp only at hl1 E1 E2 ⊢
 obtain ⟨Q,hQ,hQl⟩:∃ Q,R++P=Q∧R.length+P.length=Q.length:=⟨_,rfl,by simp⟩
 rw [←lx4,hQ,hQl] at E1
 have hsz:decide ((X.length+1) * 16≤140737488355328)=true:=Aj
 have htk:List.take X.length (X.map BS)=X.map BS:=lx118 (by simp)
 have hma:∀ o v:Int,X.map BS++[.ag [.sc (.int .i64 o),.sc (.int .i64 v)]]=(X++[(⟨o,v⟩:In)]).map BS:=fun o v=>by rw [lx12]; rfl
 refine ⟨P,c1+1,c1+2,?_⟩
 rw [←lx4,hQ,hQl]
 refine Ag (Am (lit:=false) (pm:=fun _=>none) .nil .nil .nil (.cons Qq (.cons XN .nil))) rfl Tryz.func43 rfl (by decide) (by kernel_rfl) ?_
 refine qd6 ?_
 try cases c0
 all_goals refine Aa ?_
 all_goals simp (maxSteps:=10000000) +contextual -implicitDefEqProofs only [Bk,Bg,Ao,St.put,Ap,Al,D8,pl,Array.toList,lx6,lx7,↓reduceIte,reduceCtorEq,Nat.reduceAdd,Nat.reduceLeDiff,Nat.reduceEqDiff,Nat.reduceMul,Int.reduceEq,Int.reduceNe,Int.reduceLE,Int.reduceLT,ne_eq,Nat.reduceBEq,Nat.reduceLT,eq_self,Cu,lx8,D5,Qc,Int.reduceToNat,Nat.reduceSub,Int.reduceAdd,Int.reduceMul,Int.reduceSub,Dq,Fe,hl,AB,AU,AX,Cf,Dl,norefs,AV.noref,Cs,CQ,Int.reduceBNe,Int.reduceBEq,E0,E1,E2,hsz,hk1,htk,hma,BW,JB,Qr,WD,WE,WG,sc0,sc1,dl1,dl2,dl3,lx4,lx5]
 all_goals first | exact .refl _ | exact Jp _ _ | skip
 all_goals done):P:=h
theorem sB {P:Prop} (h:P:=by
 refine ⟨[],cnt,cnt+1,?_⟩
 simp only [lx64,lx63,IW]
 exact sW):P:=h
theorem P0 (t:Tp) (ht:TpOk t) (base d a:Nat) (ha:a≤200) (R:List Blk) (cnt j k:Nat) (hk:Cn t a 15=k) (hj:j=k∧k≤11∨j=0∧11 < k∧d=0):IG t base d a R cnt (tLf t j (Bb t a)):=by
 have hb:=Bc ht ha
 have E0:=e42 t ht a 15 15 rfl (by omega) (by omega) ha R cnt
 rw [hk] at E0
 generalize Bb t a=b at hb E0 ⊢
 obtain ⟨c0,BW⟩:∃ c0,decide ((d:Int)≤0)=c0:=⟨_,rfl⟩
 have n:=trivial
 obtain ⟨E1,E2,E3,w9,hsz,htk,hma,hk1⟩:True∧True∧True∧True∧True∧True∧True∧True:=⟨n,n,n,n,n,n,n,n⟩
 have w:∀ x:Int,0≤x∧x < 100→IntKind.i64.wrap x=x:=fun x h=>Bd (by omega) (by omega)
 have h2:=Cc (t:=t) (a:=b) (n:=2) (by omega)
 have h3:=Cc (t:=t) (a:=b) (n:=3) (by omega)
 have F:=fun y n (N:Int) h g h' h''=>e42 t ht y n N h g h' h''
 have G:=fun v V h (hv:v≤5)=>Ach t v b V h R cnt (F7 t ht v b hv hb R cnt)
 have L:=fun v=>CN t v b
 have M:=fun v=>CW ht v hb
 have hb':=Bc ht hb
 rcases hj with ⟨rfl,hk⟩ | ⟨rfl,h11,hd⟩
 rotate_left
 ·have hk1:decide ((11:Int) < (k:Int))=true:=by rw [AR]; omega
  obtain rfl:c0=true:=by rw [←BW]; subst hd; rfl
  simp only [tLf,Nat.reduceEqDiff,↓reduceIte]
  exact Anl
 have:j=0∨j=1∨j=2∨j=3∨j=4∨j=5∨j=6∨j=7∨j=8∨j=9∨j=10∨j=11:=Ah
 rcases this with rfl | rfl | rfl | rfl | rfl | rfl | rfl | rfl | rfl | rfl | rfl | rfl
 all_goals simp only [tLf,Nat.reduceEqDiff,↓reduceIte,Int.cast_ofNat_Int,Int.natCast_zero,Int.natCast_one] at E0 ⊢
 ·exact Anl
 ·obtain ⟨P,ver,c1,E1⟩:=G 1 1 rfl (by omega)
  have hl1:=L 1
  have E2:=n
  generalize An t 1 b=V at hl1 E1 E2 ⊢
  exact sA
 ·have E1:=F b 3 3 rfl (by omega) (by omega) hb
  have E2:=F (Bb t b) 32 32 rfl (by omega) (by omega) hb'
  have w9:=w (16+(Cn t b 3:Nat)) (by omega)
  exact sB
 ·obtain ⟨P,ver,c1,E1⟩:=G 0 0 rfl (by omega)
  have hl1:=L 0
  have E2:=F (An t 0 b).2 64 64 rfl (by omega) (by omega) (M 0)
  generalize An t 0 b=V at hl1 E1 E2 ⊢
  exact sA
 ·have hl1:=CN t 0 b
  have hx2:=CW ht 0 hb
  have hl2:=CN t 0 (An t 0 b).2
  have hx3:=CW ht 0 hx2
  obtain ⟨P,ver,c1,E1⟩:=G 0 0 rfl (by omega)
  obtain ⟨Q,hQ,hQl⟩:∃ Q,R++P=Q∧R.length+P.length=Q.length:=⟨_,rfl,by simp⟩
  rw [←lx4,hQ,hQl] at E1
  obtain ⟨P2,ver2,c2,E2⟩:=Ach t 0 (An t 0 b).2 0 rfl (Q++[⟨true,ver,102,2,(An t 0 b).1.map BS,false⟩]) c1 (F7 t ht 0 _ (by omega) hx2 _ c1)
  have E3:=F (An t 0 (An t 0 b).2).2 64 64 rfl (by omega) (by omega) hx3
  generalize An t 0 b=V at hl1 hl2 E1 E2 E3 ⊢
  obtain ⟨X,y⟩:=V
  simp only at hl1 hl2 E1 E2 E3 ⊢
  generalize An t 0 y=V at hl2 E2 E3 ⊢
  obtain ⟨Y,u⟩:=V
  simp only at hl2 E2 E3 ⊢
  have hsz:decide ((X.length+Y.length) * 16≤140737488355328)=true:=Aj
  have hsz2:decide ((X.length+Y.length+1) * 16≤140737488355328)=true:=Aj
  have htk:List.take X.length (X.map BS)=X.map BS:=lx118 (by simp)
  have htk2:List.take Y.length (Y.map BS)=Y.map BS:=lx118 (by simp)
  have htk3:List.take (X.length+Y.length) (X.map BS++Y.map BS)=X.map BS++Y.map BS:=lx118 (by simp)
  have hma:X.map BS++(Y.map BS++[.ag [.sc (.int .i64 20),.sc (.int .i64 ((Cn t u 64:Nat):Int))]])=(X++(Y++[(⟨20,((Cn t u 64:Nat):Int)⟩:In)])).map BS:=by rw [lx12,lx12]; rfl
  refine Ar0 ?_
  refine Ag (Am (lit:=false) (pm:=fun _=>none) .nil .nil .nil (.cons Qq (.cons XN .nil))) rfl Tryz.func43 rfl (by decide) (by kernel_rfl) ?_
  refine qd6 ?_
  try cases c0
  all_goals refine Aa ?_
  all_goals simp (maxSteps:=10000000) +contextual -implicitDefEqProofs only [Bk,Bg,Ao,St.put,D8,↓reduceIte,Nat.reduceAdd,Nat.reduceLeDiff,Nat.reduceEqDiff,Nat.reduceMul,Int.reduceLT,Nat.reduceBEq,Nat.reduceLT,D5,Qc,Int.reduceAdd,Int.reduceMul,Dq,Fe,hl,Int.reduceBEq,E0,E1,E2,E3,hsz,hsz2,htk,htk2,htk3,hma,Amd,Ame,Amf,dlP,AJ,BW,JB,sc0,lx4,lx5]
  all_goals try exact ⟨.refl _,J3 _ _ _ _⟩
  all_goals done
 ·exact Anm
 ·have E1:=F b 2 2 rfl (by omega) (by omega) hb
  exact sB
 ·have E1:=F b 2 2 rfl (by omega) (by omega) hb
  have E2:=F (Bb t b) 2 2 rfl (by omega) (by omega) hb'
  have w9:=w (23+(Cn t b 2:Nat)) (by omega)
  exact sB
 ·have E1:=F b 2 2 rfl (by omega) (by omega) hb
  exact sB
 ·have E1:=F b 3 3 rfl (by omega) (by omega) hb
  have E2:=F (Bb t b) 64 64 rfl (by omega) (by omega) hb'
  have w9:=w (26+(Cn t b 3:Nat)) (by omega)
  exact sB
 ·exact Anm
 ·exact sB
def D43 (args:List AV) (H:List Blk) (cnt:Nat) (r:AV) (H':List Blk) (cnt':Nat):Prop:=
 ∀ (t:Tp) (a d base:Nat) (R:List Blk),args=[.pt 0 t.v 0 0,.sc (.int .i64 (base:Int)),.sc (.int .i64 (d:Int))]→H=NH t a::R→
  ∃ P ver,r=.sl (R.length+P.length+1) ver 0 (BV t d base a).1.length∧H'=NH t (BV t d base a).2::(R++(P++[PY ver (BV t d base a).1]))
noncomputable def f43:=hF Tryz.prog 43 D43
theorem Azz:Ql Tryz.prog 43 f43:=LU _ _ _
theorem Ba0 (t:Tp) (d base a:Nat) (D:Int) (hD:D=(d:Int)) (R:List Blk) (cnt:Nat) (h:IG t base d a R cnt (BV t d base a)):
  ∃ P ver cnt',f43 [.pt 0 t.v 0 0,.sc (.int .i64 (base:Int)),.sc (.int .i64 D)] (⟨true,t.v,96,2,[.ag [.vw t.z (t.l.map uA),.sc (.int .i64 (a:Int))]],false⟩::R) cnt=
   some (.sl (R.length+P.length+1) ver 0 (BV t d base a).1.length,⟨true,t.v,96,2,[.ag [.vw t.z (t.l.map uA),.sc (.int .i64 ((BV t d base a).2:Int))]],false⟩::(R++(P++[⟨true,ver,102,2,(BV t d base a).1.map BS,false⟩])),cnt'):=by
 subst hD
 obtain ⟨P,ver,c',h⟩:=h
 obtain ⟨r,H',c',e,d'⟩:=LV (D:=D43) h (by
  intro t' a' d' b' R' h1 h2
  simp only [lx96,Ay,AV.sc.injEq,Value.int.injEq,D3] at h1 h2
  obtain ⟨⟨rfl,rfl⟩,rfl⟩:=And.intro (N8 h2.1) h2.2
  obtain rfl:d=d':=Ah
  obtain rfl:base=b':=Ah
  exact ⟨P,ver,rfl,rfl⟩)
 obtain ⟨P,ver,rfl,rfl⟩:=d' t a d base R rfl rfl
 exact ⟨P,ver,c',e⟩
theorem Asu (t:Tp) (ht:TpOk t) (base d a:Nat) (ha:a≤200) (hd:d≤5) (hbs:base≤10000) (R:List Blk) (cnt:Nat) (hk:Cn t a 15=12) (ih:∀ (base' a:Nat) (_:base'≤base+100) (_:a≤200) (R:List Blk) (cnt:Nat),IG t base' d a R cnt (BV t d base' a)):IG t base (d+1) a R cnt (BV t (d+1) base a):=by
 have h1:BV t (d+1) base a=((An t 1 (Bb t a)).1++[⟨13,((base+(An t 1 (Bb t a)).1.length+1+(BV t d (base+(An t 1 (Bb t a)).1.length+1) (An t 1 (Bb t a)).2).1.length:Nat):Int)⟩]++(BV t d (base+(An t 1 (Bb t a)).1.length+1) (An t 1 (Bb t a)).2).1,(BV t d (base+(An t 1 (Bb t a)).1.length+1) (An t 1 (Bb t a)).2).2):=by
  rw [BV,hk,if_pos rfl]
 rw [h1]
 have hb:=Bc ht ha
 have E0:=e42 t ht a 15 15 rfl (by omega) (by omega) ha R cnt
 rw [hk] at E0
 obtain ⟨b,hb'⟩:∃ b,Bb t a=b:=⟨_,rfl⟩
 rw [hb'] at hb E0 ⊢
 have hK:((12:Nat):Int)=12:=rfl
 rw [hK] at E0
 have c0:decide (((d+1:Nat):Int)≤0)=false:=Ke
 have w0:IntKind.i64.wrap (((d+1:Nat):Int) - 1)=(d:Int):=AK
 have hl1:=CN t 1 b
 have hx2:=CW ht 1 hb
 obtain ⟨P,ver,c1,E1⟩:=Ach t 1 b 1 rfl R cnt (F7 t ht 1 b (by omega) hb R cnt)
 obtain ⟨Q,hQ,hQl⟩:∃ Q,R++P=Q∧R.length+P.length=Q.length:=⟨_,rfl,by simp⟩
 rw [←lx4,hQ,hQl] at E1
 obtain ⟨X,hX⟩:∃ X,(An t 1 b).1=X:=⟨_,rfl⟩
 obtain ⟨y,hy⟩:∃ y,(An t 1 b).2=y:=⟨_,rfl⟩
 rw [hX] at hl1
 rw [hy] at hx2
 simp only [hX,hy] at E1 ⊢
 have hX8:X.length≤8:=Ah
 have hl2:=Ib t d (base+X.length+1) y
 obtain ⟨P2,ver2,c2,E2⟩:=Ba0 t d (base+X.length+1) y (d:Int) rfl (Q++[⟨true,ver,102,2,X.map BS,false⟩]) c1 (ih _ _ (by omega) hx2 _ c1)
 obtain ⟨Y,hY⟩:∃ Y,(BV t d (base+X.length+1) y).1=Y:=⟨_,rfl⟩
 obtain ⟨u,hu⟩:∃ u,(BV t d (base+X.length+1) y).2=u:=⟨_,rfl⟩
 rw [hY] at hl2
 simp only [hY,hu] at E2 ⊢
 have w1:IntKind.i64.wrap ((base:Int)+(X.length:Int))=((base+X.length:Nat):Int):=AK
 have w2:IntKind.i64.wrap (((base+X.length:Nat):Int)+1)=((base+X.length+1:Nat):Int):=AK
 have w22:IntKind.i64.wrap (((base+X.length:Nat):Int)+2)=((base+X.length+2:Nat):Int):=AK
 have w3:IntKind.i64.wrap (((base+X.length+1:Nat):Int)+(Y.length:Int))=((base+X.length+1+Y.length:Nat):Int):=AK
 have w33:IntKind.i64.wrap (((base+X.length+2:Nat):Int)+(Y.length:Int))=((base+X.length+2+Y.length:Nat):Int):=AK
 have hsz:decide ((X.length+1) * 16≤140737488355328)=true:=Aj
 have hsz2:decide ((X.length+1+Y.length) * 16≤140737488355328)=true:=Aj
 have hsz3:decide ((X.length+1+Y.length+1) * 16≤140737488355328)=true:=Aj
 have htk:List.take X.length (X.map BS)=X.map BS:=lx118 (by simp)
 have htk2:List.take Y.length (Y.map BS)=Y.map BS:=lx118 (by simp)
 have htk3:∀ i:AV,List.take (X.length+1) (X.map BS++[i])=X.map BS++[i]:=fun i=>lx118 (by simp)
 have htk4:∀ i:AV,List.take (X.length+1+Y.length) (X.map BS++i::Y.map BS)=X.map BS++i::Y.map BS:=fun i=>lx118 (by simp; omega)
 have hma:X.map BS++(AV.ag [.sc (.int .i64 13),.sc (.int .i64 ((base+X.length+1+Y.length:Nat):Int))]::Y.map BS)=(X++(⟨13,((base+X.length+1+Y.length:Nat):Int)⟩::Y)).map BS:=by simp [BS,kA]
 have hle:X.length+(Y.length+1)=X.length+1+Y.length:=Ah
 refine Ar0 ?_
 refine Ag (Am (lit:=false) (pm:=fun _=>none) .nil .nil .nil (.cons Qq (.cons XN (.cons Azz .nil)))) rfl Tryz.func43 rfl (by decide) (by kernel_rfl) ?_
 refine qd6 ?_
 refine Aa ?_
 simp (maxSteps:=10000000) +contextual -implicitDefEqProofs only [Bk,Bg,Ao,St.put,D8,↓reduceIte,Nat.reduceAdd,Nat.reduceLeDiff,Nat.reduceEqDiff,Nat.reduceMul,Int.reduceLT,Nat.reduceBEq,Nat.reduceLT,D5,Qc,Int.reduceAdd,Int.reduceMul,Dq,Fe,hl,Int.reduceBEq,E0,E1,E2,c0,w0,w1,w2,w3,hsz,hsz2,htk,htk2,htk3,hma,hle,JB,sc0,Amd,Ame,Amf,dlP,AJ,lx4,lx5]
 all_goals exact J3 _ _ _ _
 all_goals done
theorem Asv (t:Tp) (ht:TpOk t) (base d a:Nat) (ha:a≤200) (hd:d≤5) (hbs:base≤10000) (R:List Blk) (cnt:Nat) (hk:Cn t a 15=13∨Cn t a 15=14) (ih:∀ (base' a:Nat) (_:base'≤base+100) (_:a≤200) (R:List Blk) (cnt:Nat),IG t base' d a R cnt (BV t d base' a)):IG t base (d+1) a R cnt (BV t (d+1) base a):=by
 have h1:BV t (d+1) base a=((An t 0 (Bb t a)).1++[⟨14,((base+(An t 0 (Bb t a)).1.length+2+(BV t d (base+(An t 0 (Bb t a)).1.length+1) (An t 0 (Bb t a)).2).1.length:Nat):Int)⟩]++(BV t d (base+(An t 0 (Bb t a)).1.length+1) (An t 0 (Bb t a)).2).1++[⟨12,((base+(An t 0 (Bb t a)).1.length:Nat):Int)⟩],(BV t d (base+(An t 0 (Bb t a)).1.length+1) (An t 0 (Bb t a)).2).2):=by
  rw [BV,if_neg (by omega),if_pos hk]
 rw [h1]
 have hb:=Bc ht ha
 have E0:=e42 t ht a 15 15 rfl (by omega) (by omega) ha R cnt
 obtain ⟨b,hb'⟩:∃ b,Bb t a=b:=⟨_,rfl⟩
 rw [hb'] at hb E0 ⊢
 have c0:decide (((d+1:Nat):Int)≤0)=false:=Ke
 have w0:IntKind.i64.wrap (((d+1:Nat):Int) - 1)=(d:Int):=AK
 have hl1:=CN t 0 b
 have hx2:=CW ht 0 hb
 obtain ⟨P,ver,c1,E1⟩:=Ach t 0 b 0 rfl R cnt (F7 t ht 0 b (by omega) hb R cnt)
 obtain ⟨Q,hQ,hQl⟩:∃ Q,R++P=Q∧R.length+P.length=Q.length:=⟨_,rfl,by simp⟩
 rw [←lx4,hQ,hQl] at E1
 obtain ⟨X,hX⟩:∃ X,(An t 0 b).1=X:=⟨_,rfl⟩
 obtain ⟨y,hy⟩:∃ y,(An t 0 b).2=y:=⟨_,rfl⟩
 rw [hX] at hl1
 rw [hy] at hx2
 simp only [hX,hy] at E1 ⊢
 have hX8:X.length≤8:=Ah
 have hl2:=Ib t d (base+X.length+1) y
 obtain ⟨P2,ver2,c2,E2⟩:=Ba0 t d (base+X.length+1) y (d:Int) rfl (Q++[⟨true,ver,102,2,X.map BS,false⟩]) c1 (ih _ _ (by omega) hx2 _ c1)
 obtain ⟨Y,hY⟩:∃ Y,(BV t d (base+X.length+1) y).1=Y:=⟨_,rfl⟩
 obtain ⟨u,hu⟩:∃ u,(BV t d (base+X.length+1) y).2=u:=⟨_,rfl⟩
 rw [hY] at hl2
 simp only [hY,hu] at E2 ⊢
 have w1:IntKind.i64.wrap ((base:Int)+(X.length:Int))=((base+X.length:Nat):Int):=AK
 have w2:IntKind.i64.wrap (((base+X.length:Nat):Int)+1)=((base+X.length+1:Nat):Int):=AK
 have w22:IntKind.i64.wrap (((base+X.length:Nat):Int)+2)=((base+X.length+2:Nat):Int):=AK
 have w3:IntKind.i64.wrap (((base+X.length+1:Nat):Int)+(Y.length:Int))=((base+X.length+1+Y.length:Nat):Int):=AK
 have w33:IntKind.i64.wrap (((base+X.length+2:Nat):Int)+(Y.length:Int))=((base+X.length+2+Y.length:Nat):Int):=AK
 have hsz:decide ((X.length+1) * 16≤140737488355328)=true:=Aj
 have hsz2:decide ((X.length+1+Y.length) * 16≤140737488355328)=true:=Aj
 have hsz3:decide ((X.length+1+Y.length+1) * 16≤140737488355328)=true:=Aj
 have htk:List.take X.length (X.map BS)=X.map BS:=lx118 (by simp)
 have htk2:List.take Y.length (Y.map BS)=Y.map BS:=lx118 (by simp)
 have htk3:∀ i:AV,List.take (X.length+1) (X.map BS++[i])=X.map BS++[i]:=fun i=>lx118 (by simp)
 have htk4:∀ i:AV,List.take (X.length+1+Y.length) (X.map BS++i::Y.map BS)=X.map BS++i::Y.map BS:=fun i=>lx118 (by simp; omega)
 have hma:X.map BS++(AV.ag [.sc (.int .i64 14),.sc (.int .i64 ((base+X.length+2+Y.length:Nat):Int))]::(Y.map BS++[AV.ag [.sc (.int .i64 12),.sc (.int .i64 ((base+X.length:Nat):Int))]]))=(X++(⟨14,((base+X.length+2+Y.length:Nat):Int)⟩::(Y++[(⟨12,((base+X.length:Nat):Int)⟩:In)]))).map BS:=by simp [BS,kA]
 have hle:X.length+(Y.length+1+1)=X.length+1+Y.length+1:=Ah
 refine ⟨P,c2+4,c2+5,?_⟩
 rw [←lx4 R P,hQ,hQl]
 refine Ag (Am (lit:=false) (pm:=fun _=>none) .nil .nil .nil (.cons Qq (.cons XN (.cons Azz .nil)))) rfl Tryz.func43 rfl (by decide) (by kernel_rfl) ?_
 refine qd6 ?_
 rcases hk with hk | hk
 all_goals simp only [hk,Int.cast_ofNat_Int] at E0
 all_goals refine Aa ?_
 all_goals simp (maxSteps:=10000000) +contextual -implicitDefEqProofs only [Bk,Bg,Ao,St.put,D8,↓reduceIte,Nat.reduceAdd,Nat.reduceLeDiff,Nat.reduceEqDiff,Nat.reduceMul,Int.reduceLT,Nat.reduceBEq,Nat.reduceLT,D5,Qc,Int.reduceAdd,Int.reduceMul,Dq,Fe,hl,Int.reduceBEq,E0,E1,E2,c0,w0,w1,w2,w22,w33,hsz,hsz2,hsz3,htk,htk2,htk3,htk4,hma,hle,JB,sc0,Amd,Ame,Amf,dlP,AJ,lx4,lx5]
 all_goals exact J3 _ _ _ _
 all_goals done
theorem R4 (t:Tp) (ht:TpOk t):∀ (d base a:Nat) (_:d≤5) (_:base+100 * d≤10000) (_:a≤200) (R:List Blk) (cnt:Nat),IG t base d a R cnt (BV t d base a)
 | 0,base,a,hd,hbs,ha,R,cnt=>by
  have hk:Cn t a 15 < 15:=Cc (by omega)
  by_cases h:Cn t a 15≤11
  ·have:=P0 t ht base 0 a ha R cnt _ _ rfl (.inl ⟨rfl,h⟩)
   rw [BV,if_neg (by omega)]
   exact this
  ·rw [BV,if_pos (by omega)]
   exact P0 t ht base 0 a ha R cnt 0 _ rfl (.inr ⟨rfl,by omega,rfl⟩)
 | d+1,base,a,hd,hbs,ha,R,cnt=>by
  have hk:Cn t a 15 < 15:=Cc (by omega)
  have ih:=R4 t ht d
  by_cases h:Cn t a 15≤11
  ·have:=P0 t ht base (d+1) a ha R cnt _ _ rfl (.inl ⟨rfl,h⟩)
   rw [BV,if_neg (by omega),if_neg (by omega)]
   exact this
  ·have h3:Cn t a 15=12∨Cn t a 15=13∨Cn t a 15=14:=by omega
   rcases h3 with h3 | h3
   ·exact Asu t ht base d a ha (by omega) (by omega) R cnt h3 fun b x hb hx R c=>ih b x (by omega) (by omega) hx R c
   ·exact Asv t ht base d a ha (by omega) (by omega) R cnt h3 fun b x hb hx R c=>ih b x (by omega) (by omega) hx R c
end Go.Proofs.YtdjpkhjaibdogaaGreat
