/-
  Lemmas towards ModesPriority (joined texts: PY, P5, P7, P8, P9, P6).
  Conditions: none.
-/
import Derived.Test.YtdjpkhjaibdogaaGreatL01
import Derived.Test.YtdjpkhjaibdogaaGreatL30
import Derived.Test.YtdjpkhjaibdogaaGreatL27
import Derived.Test.YtdjpkhjaibdogaaGreatL42
import Derived.Test.YtdjpkhjaibdogaaGreatL02
import Derived.Test.YtdjpkhjaibdogaaGreatL40
set_option linter.unusedSimpArgs false
set_option linter.unusedVariables false
set_option maxRecDepth 100000
set_option maxHeartbeats 80000000
namespace Go.Proofs.YtdjpkhjaibdogaaGreat
open Go Go.SX
def D6 (m:Mo):List In:=⟨1,m.s⟩::⟨15,0⟩::bif m.c then [⟨30,0⟩,⟨31,0⟩] else [⟨31,0⟩]
def Dy (m:Mo):Nat:=bif m.c then 4 else 3
theorem Aa0 (m:Mo):(D6 m).length=Dy m:=by cases h:m.c <;> simp [D6,Dy,h]
def NB (ms:List Mo) (j:Nat):Nat:=((ms.take j).flatMap D6).length
theorem Aos {ms:List Mo} {j:Nat} (h:j < ms.length):NB ms (j+1)=NB ms j+Dy (ms.getD j default):=by
 have e:ms.take (j+1)=ms.take j++[ms.getD j default]:=by
  exact Aqp
 rw [NB,e,lx114,lx7,List.flatMap_singleton,Aa0,NB]
theorem Agj (ms:List Mo):NB ms ms.length=(ms.flatMap D6).length:=by rw [NB,lx73]
theorem Nq (m:Mo):3≤Dy m∧Dy m≤4:=by cases h:m.c <;> simp [Dy,h]
theorem Wt (ms:List Mo):∀ j,j≤ms.length→NB ms j≤4 * j
 | 0,_=>Av 0
 | j+1,h=>by
  rw [Aos (by omega)]
  have:=Wt ms j (by omega)
  have:=Nq (ms.getD j default)
  omega
theorem Agk {ms:List Mo} {j:Nat} (h:j < ms.length) {k:Nat} (hk:k < Dy (ms.getD j default)):(ms.flatMap D6).getD (NB ms j+k) default=(D6 (ms.getD j default)).getD k default∧NB ms j+k < (ms.flatMap D6).length:=by
 have hg:ms.getD j default=ms[j]:=Ajx
 have e:ms.flatMap D6=(ms.take j).flatMap D6++(D6 ms[j]++(ms.drop (j+1)).flatMap D6):=by
  conv=>lhs; rw [←lx67 j ms,lx76 h,lx114,List.flatMap_cons]
 rw [hg] at hk ⊢
 have hk':k < (D6 ms[j]).length:=by rw [Aa0]; exact hk
 refine ⟨?_,?_⟩
 ·rw [e,NB,lx81,lx62 (by omega),KW,lx61 hk',←lx81]
 ·rw [e,lx7,lx7,NB]; omega
def JC (ms:List Mo) (j:Nat):En:=⟨(j:Int),6,0,(NB ms j:Int)⟩
def AG (ms:List Mo):Cd:=⟨false,ms.flatMap D6,true,[],false,(List.range ms.length).map (JC ms),false,ms.map (·.p),true,[],0,1⟩
structure MoR (m:Mo):Prop where
 p:0≤m.p∧m.p≤7
 s:0≤m.s∧m.s≤15
theorem Ato (ms:List Mo) (h:ms.length≤16):Fit (AG ms):=by
 have:=Wt ms ms.length (Av _)
 rw [Agj] at this
 refine ⟨?_,?_,?_,?_,?_,?_,?_,?_⟩ <;> simp [AG] <;> first | done | skip
 ·simp at this; omega
 ·omega
 ·omega
theorem KJ {ms:List Mo} {j:Nat} (h:j < ms.length) {k:Nat} (hk:k < Dy (ms.getD j default)) {i:Int} (hi:i=(NB ms j:Int)+k):AI (AG ms) i=(D6 (ms.getD j default)).getD k default:=by
 have e:i.toNat=NB ms j+k:=An
 rw [AI,e]
 exact (Agk h hk).1
theorem LP (m:Mo) {k:Nat} (hk:k < Dy m):(k=0∧(D6 m).getD k default=⟨1,m.s⟩)∨(k=1∧(D6 m).getD k default=⟨15,0⟩)∨(k=2∧m.c=true∧Dy m=4∧(D6 m).getD k default=⟨30,0⟩)∨(k+1=Dy m∧2≤k∧(D6 m).getD k default=⟨31,0⟩):=by
 cases hc:m.c with
 | false=>
  have hn:Dy m=3:=by rw [Dy,hc]; rfl
  rw [hn] at hk ⊢
  rw [D6,hc]
  rcases (by omega:k=0∨k=1∨k=2) with rfl | rfl | rfl
  ·exact .inl ⟨rfl,rfl⟩
  ·exact .inr (.inl ⟨rfl,rfl⟩)
  ·exact .inr (.inr (.inr ⟨rfl,by omega,rfl⟩))
 | true=>
  have hn:Dy m=4:=by rw [Dy,hc]; rfl
  rw [hn] at hk ⊢
  rw [D6,hc]
  rcases (by omega:k=0∨k=1∨k=2∨k=3) with rfl | rfl | rfl | rfl
  ·exact .inl ⟨rfl,rfl⟩
  ·exact .inr (.inl ⟨rfl,rfl⟩)
  ·exact .inr (.inr (.inl ⟨rfl,rfl,rfl,rfl⟩))
  ·exact .inr (.inr (.inr ⟨rfl,by omega,rfl⟩))
theorem Agl {ms:List Mo} (hq:∀ m ∈ ms,MoR m) {x:In} (h:x ∈ ms.flatMap D6):(x.op=1∧0≤x.a∧x.a≤15)∨x=⟨15,0⟩∨x=⟨30,0⟩∨x=⟨31,0⟩:=by
 obtain ⟨m,hm,hx⟩:=List.mem_flatMap.1 h
 have hr:=(hq m hm).s
 cases hc:m.c <;> simp [D6,hc] at hx
 ·rcases hx with rfl | rfl | rfl
  ·exact .inl ⟨rfl,hr⟩
  ·exact .inr (.inl rfl)
  ·exact .inr (.inr (.inr rfl))
 ·rcases hx with rfl | rfl | rfl | rfl
  ·exact .inl ⟨rfl,hr⟩
  ·exact .inr (.inl rfl)
  ·exact .inr (.inr (.inl rfl))
  ·exact .inr (.inr (.inr rfl))
theorem Wu {ms:List Mo} {e:En} (h:e ∈ (AG ms).ens):∃ j,j < ms.length∧e=JC ms j:=by
 obtain ⟨j,hj,rfl⟩:=lx35.1 h
 exact ⟨j,Hr.1 hj,rfl⟩
theorem Aot (ms:List Mo):(AG ms).ins.length=NB ms ms.length:=(Agj ms).symm
theorem Aou {ms:List Mo} {j:Nat} (h:j < ms.length) {k:Nat} (hk:k < Dy (ms.getD j default)):NB ms j+k < (AG ms).ins.length:=(Agk h hk).2
theorem KK (ms:List Mo) (h:ms.length≤16) (hq:∀ m ∈ ms,MoR m):AY (AG ms)=0:=by
 have hl:=Wt ms ms.length (Av _)
 have hil:=Aot ms
 have l1:Sm (AG ms)=true:=by
  simp only [Sm,hil,HY]
  simp [AG]
  omega
 have l2:Jp (AG ms)=true:=by
  have e1:(AG ms).strs.any (fun b=>!Hj b)=false:=rfl
  have e2:(AG ms).pri.any prB=false:=by
   rw [lx95]
   intro p hp
   obtain ⟨m,hm,rfl⟩:=lx35.1 hp
   have:=(hq m hm).p
   simp [prB,HY]; omega
  have e3:(AG ms).vars.any vaB=false:=rfl
  have e4:(AG ms).ens.any (fun e=>!KS (AG ms) e)=false:=by
   rw [lx95]
   intro e he
   obtain ⟨j,hj,rfl⟩:=Wu he
   simp [KS,HY,JC,AG]; omega
  have e5:(AG ms).ins.any (insP (AG ms))=false:=by
   rw [lx95]
   intro x hx
   rcases Agl hq hx with ⟨h1,h2,h3⟩ | rfl | rfl | rfl
   ·simp [insP,DB,h1,C0,HY]; omega
   ·simp [insP,DB,C0,HY]
   ·simp [insP,DB,C0,HY]
   ·simp [insP,DB,C0,HY]
  rw [Jp,Abr,e1,e2,e3,e4,e5]; rfl
 have l3:Hk (AG ms)=true:=by
  have e5:(AG ms).ins.any (tgP (AG ms))=false:=by
   rw [lx95]
   intro x hx
   rcases Agl hq hx with ⟨h1,h2,h3⟩ | rfl | rfl | rfl
   ·simp [tgP,DB,h1]
   ·simp [tgP,DB]
   ·simp [tgP,DB]
   ·simp [tgP,DB]
  have e4:(AG ms).ens.any (tgB (AG ms))=false:=by
   rw [lx95]
   intro e he
   obtain ⟨j,hj,rfl⟩:=Wu he
   have:=Aou hj (k:=0) (by have:=Nq (ms.getD j default); omega)
   have h9:(NB ms j:Int)≤((AG ms).ins.length:Int) - 1:=An
   simp [tgB,HY,JC,h9]
  rw [Hk,e5,e4]; rfl
 have l4:Sp (AG ms)=true:=by
  refine UI fun k hk=>?_
  have hk:k+1 < ms.length:=by simpa [AG] using hk
  have g:∀ j,j < ms.length→(AG ms).ens.getD j default=JC ms j:=fun j hj=>by
   rw [AG,lx81,lx23,SS hj]; rfl
  rw [Nh,g k (by omega),g (k+1) hk]
  have:(k:Int) < ((k+1:Nat):Int):=An
  have h9:¬ ((k:Int)=((k+1:Nat):Int)):=An
  simp only [Ng,JC,if_neg h9]
  exact AA this
 have l5:Jy (AG ms)=true:=by
  have key:∀ i h,Rch (AG ms) i h→∃ j k,j < ms.length∧k < Dy (ms.getD j default)∧i=(NB ms j:Int)+(k:Nat)∧h=if k=1 then 1 else 0:=by
   intro i h r
   induction r with
   | ent he=>
    obtain ⟨j,hj,rfl⟩:=Wu he
    exact ⟨j,0,hj,by have:=Nq (ms.getD j default); omega,by simp [JC],rfl⟩
   | step r hi ho hs ih=>
    obtain ⟨j,k,hj,hk,rfl,rfl⟩:=ih
    have h3:=Nq (ms.getD j default)
    rw [KJ hj hk rfl] at hs ho
    rcases LP _ hk with ⟨rfl,e⟩ | ⟨rfl,e⟩ | ⟨rfl,_,e4,e⟩ | ⟨e4,e2,e⟩
    ·rw [e] at hs
     simp [Cz,B5] at hs
     exact ⟨j,1,hj,by omega,by rw [hs.1]; simp,by rw [hs.2]; rfl⟩
    ·rw [e] at hs
     simp [Cz,B5] at hs
     exact ⟨j,2,hj,by omega,by rw [hs.1]; simp; omega,by rw [hs.2]; rfl⟩
    ·rw [e] at hs
     simp [Cz,B5] at hs
     exact ⟨j,3,hj,by omega,by rw [hs.1]; simp; omega,by rw [hs.2]; rfl⟩
    ·rw [e] at hs
     simp [Cz] at hs
  have op15:∀ {j k:Nat},j < ms.length→k < Dy (ms.getD j default)→((AI (AG ms) ((NB ms j:Int)+(k:Nat))).op=15↔k=1):=by
   intro j k hj hk
   rw [KJ hj hk rfl]
   rcases LP _ hk with ⟨rfl,e⟩ | ⟨rfl,e⟩ | ⟨rfl,_,e4,e⟩ | ⟨e4,e2,e⟩ <;> rw [e] <;> simp
   omega
  refine UG ⟨fun i h r=>?_,fun i h h' r r'=>?_⟩
  ·obtain ⟨j,k,hj,hk,rfl,rfl⟩:=key i h r
   have:=Aou hj hk
   refine ⟨by omega,by split <;> omega,?_⟩
   rw [KJ hj hk rfl]
   rcases LP _ hk with ⟨rfl,e⟩ | ⟨rfl,e⟩ | ⟨rfl,_,e4,e⟩ | ⟨e4,e2,e⟩ <;> rw [e] <;> simp [LK,B5]
   omega
  ·obtain ⟨j,k,hj,hk,e1,rfl⟩:=key i h r
   obtain ⟨j',k',hj',hk',e2,rfl⟩:=key i h' r'
   have o1:=op15 hj hk
   have o2:=op15 hj' hk'
   rw [←e1] at o1
   rw [←e2] at o2
   have:k=1↔k'=1:=o1.symm.trans o2
   simp only [this]
 rw [AY,if_neg (by rw [l1]; simp),if_neg (by rw [l2]; simp),if_neg (by rw [l3]; simp),if_neg (by rw [l4]; simp),if_neg (by rw [l5]; simp)]
def WK (m:Mo):List Ef:=⟨15,0,m.s,0,eB⟩::bif m.c then [⟨30,0,0,0,eB⟩] else []
theorem Aov {ms:List Mo} {j:Nat} (hj:j < ms.length) (v:Vn) (va:List Int):(C1 (AG ms) v 1000 ⟨(NB ms j:Int),false,va,[],[]⟩).1=⟨(NB ms j:Int)+Dy (ms.getD j default),true,va,[],WK (ms.getD j default)⟩:=by
 have h3:=Nq (ms.getD j default)
 have gk:=fun (k:Nat) (hk:k < Dy (ms.getD j default)) (i:Int) hi=>KJ hj (k:=k) hk (i:=i) hi
 have u:∀ n m,C1 (AG ms) v (n+1) m=if m.dn=true∨256 < m.ef.length then (m,0) else ((C1 (AG ms) v n (AM (AG ms) v (AI (AG ms) m.pc) m)).1,(C1 (AG ms) v n (AM (AG ms) v (AI (AG ms) m.pc) m)).2+1):=fun n m=>rfl
 have e1000:∀ m,C1 (AG ms) v 1000 m=C1 (AG ms) v (995+1+1+1+1+1) m:=fun _=>rfl
 rw [e1000]
 generalize 995=N
 generalize ms.getD j default=m at h3 gk ⊢
 generalize (NB ms j:Int)=o at gk ⊢
 generalize AG ms=C at gk u ⊢
 have g0:=gk 0 (by omega) o (by simp)
 have g1:=gk 1 (by omega) (o+1) (by simp)
 have g2:=gk 2 (by omega) (o+1+1) (by simp; omega)
 have e0:(D6 m).getD 0 default=⟨1,m.s⟩:=rfl
 have e1:(D6 m).getD 1 default=⟨15,0⟩:=rfl
 rw [e0] at g0
 rw [e1] at g1
 cases hc:m.c with
 | false=>
  have e2:(D6 m).getD 2 default=⟨31,0⟩:=by rw [D6,hc]; rfl
  rw [e2] at g2
  have hn:Dy m=3:=by rw [Dy,hc]; rfl
  rw [hn]
  simp [u,g0,g1,g2,AM,opS,IA,GV,No,Gu,WK,hc]
  omega
 | true=>
  have hn:Dy m=4:=by rw [Dy,hc]; rfl
  have g3:=gk 3 (by omega) (o+1+1+1) (by simp; omega)
  have e2:(D6 m).getD 2 default=⟨30,0⟩:=by rw [D6,hc]; rfl
  have e3:(D6 m).getD 3 default=⟨31,0⟩:=by rw [D6,hc]; rfl
  rw [e2] at g2
  rw [e3] at g3
  rw [hn]
  simp [u,g0,g1,g2,g3,AM,opS,IA,GV,No,Gu,WK,hc]
  omega
end Go.Proofs.YtdjpkhjaibdogaaGreat
namespace Go.Proofs.YtdjpkhjaibdogaaGreat
open Go Go.SX
attribute [local congr] ite_congr
def GW (D M:List AV) (ins:List In) (w e:Nat) (R:List Blk):List Blk:=⟨true,w,110,4,[.ag [.vw false D,.vw false M,.sl 1 e 0 ins.length,.vw true []]],false⟩::⟨true,e,102,2,ins.map Gd,false⟩::R
theorem Atp {D M D' M':List AV} {ins ins':List In} {w w' e e':Nat} {R R':List Blk} (h:GW D M ins w e R=GW D' M' ins' w' e' R'):D=D'∧M=M'∧ins=ins'∧w=w'∧e=e'∧R=R':=by
 simp only [GW,lx94,Blk.mk.injEq,AV.ag.injEq,AV.vw.injEq,AV.sl.injEq,AW,C5] at h
 obtain ⟨⟨rfl,rfl,rfl,rfl,_⟩,h5,rfl⟩:=h
 exact ⟨rfl,rfl,Aft.1 h5.2,rfl,rfl,rfl⟩
theorem Bqi (H0 R l:List Blk) (b d:Blk):WkH H0 (b::d::(R++l)) (b::d::R):=Ci H0 l (b::d::R)
theorem s49 (D M:List AV) (ins:List In) (hln:ins.length≤10000) (w e:Nat) (R:List Blk) (cnt:Nat) (op a:Int):
  HSpec Tryz.prog 49 [.pt 0 w 0 0,.sc (.int .i64 op),.sc (.int .i64 a)] (GW D M ins w e R) cnt (.sc (.int .i64 (ins.length:Int))) (GW D M (ins++[⟨op,a⟩]) w (cnt+1) R) (cnt+2):=by
 have hc1:decide ((ins.length+1) * 16≤140737488355328)=true:=AA (by omega)
 have hm:(ins.map Gd).length=ins.length:=lx57 _
 have h2:=AU ins
 have w1:IntKind.i64.wrap (((ins.length+1:Nat):Int) - 1)=(ins.length:Int):=B8
 have e1:(ins++[(⟨op,a⟩:In)]).map Gd=ins.map Gd++[.ag [.sc (.int .i64 op),.sc (.int .i64 a)]]:=by rw [lx10]; rfl
 have e2:(ins++[(⟨op,a⟩:In)]).length=ins.length+1:=AZ
 simp only [GW,e1,e2]
 generalize ins.map Gd=I at hm h2 ⊢
 have ht:List.take ins.length I=I:=lx12 (by omega)
 generalize ins.length=n at hln hc1 hm w1 ht ⊢
 refine Ad (Af (lit:=false) (pm:=fun _=>none) .nil .nil .nil .nil) rfl Tryz.func49 rfl (by decide) (by kernel_rfl) ?_
 simp only [Tryz.f49,Ae,lx52,lx63,Nat.reduceAdd,Nat.reduceSub,List.replicate]
 refine Ac ?_
 exact Pd (a4 hc1 w1 ht @gl1)
 repeat' (first | exact Aa (by kernel_rfl) | refine ⟨Aa (by kernel_rfl),?_⟩ | refine And.intro ?_ ?_ | fail)
 all_goals exact Ajp
def CoD {α:Type} (enc:α→List AV) (res:α→List In→AV) (nx:α→List In) (ke k:α→Nat) (args:List AV) (H:List Blk) (cnt:Nat) (a:AV) (H':List Blk) (cnt':Nat):Prop:=
 ∀ D M ins w e R x,args=.pt 0 w 0 0::enc x→H=GW D M ins w e R→a=res x ins∧H'=GW D M (ins++nx x) w (cnt+ke x) R∧cnt'=cnt+k x
noncomputable def coF (g:Nat) {α:Type} (enc:α→List AV) (res:α→List In→AV) (nx:α→List In) (ke k:α→Nat):=hF Tryz.prog g (CoD enc res nx ke k)
theorem SD {g:Nat} {α:Type} {enc:α→List AV} {res:α→List In→AV} {nx:α→List In} {ke k:α→Nat} (hi:∀ x y,enc x=enc y→x=y) {D M:List AV} {ins:List In} {w e:Nat} {R:List Blk} {x:α} {cnt:Nat}
  (h:HSpec Tryz.prog g (.pt 0 w 0 0::enc x) (GW D M ins w e R) cnt (res x ins) (GW D M (ins++nx x) w (cnt+ke x) R) (cnt+k x)):coF g enc res nx ke k (.pt 0 w 0 0::enc x) (GW D M ins w e R) cnt=some (res x ins,GW D M (ins++nx x) w (cnt+ke x) R,cnt+k x):=by
 obtain ⟨a,H',c',g1,g2⟩:=O7 (D:=CoD enc res nx ke k) h (by
  intro D' M' ins' w' e' R' x' a1 a2
  obtain ⟨rfl,rfl,rfl,rfl,rfl,rfl⟩:=Atp a2
  obtain rfl:=hi _ _ (List.cons.inj a1).2
  exact ⟨rfl,rfl,rfl⟩)
 obtain ⟨rfl,rfl,rfl⟩:=g2 D M ins w e R x rfl rfl
 exact g1
noncomputable def f49:=coF 49 (fun p:Int × Int=>[.sc (.int .i64 p.1),.sc (.int .i64 p.2)]) (fun _ ins=>.sc (.int .i64 (ins.length:Int))) (fun p=>[⟨p.1,p.2⟩]) (fun _=>1) (fun _=>2)
theorem Atq:Jo Tryz.prog 49 f49:=Ee _ _ _
theorem e49 (D M:List AV) (ins:List In) (hln:ins.length≤10000) (w e:Nat) (R:List Blk) (cnt:Nat) (op a:Int):f49 [.pt 0 w 0 0,.sc (.int .i64 op),.sc (.int .i64 a)] (GW D M ins w e R) cnt=some (.sc (.int .i64 (ins.length:Int)),GW D M (ins++[⟨op,a⟩]) w (cnt+1) R,cnt+2):=
 SD (x:=(op,a)) (fun x y h=>by
  simp only [lx94,AV.sc.injEq,Value.int.injEq,AW,C5] at h
  exact Prod.ext h.1 h.2) (s49 D M ins hln w e R cnt op a)
theorem Bqj (D M:List AV) (ins:List In) (hln:ins.length≤10000) (w e:Nat) (R:List Blk) (cnt:Nat) (t:Tok):
  HSpec Tryz.prog 128 [.pt 0 w 0 0,Jq t] (GW D M ins w e R) cnt (.tu []) (GW D M (ins++[⟨1,t.v⟩]) w (cnt+2) R) (cnt+3):=by
 have e1:=fun R cnt=>e49 D M ins hln w e R cnt 1 t.v
 simp only [Jq]
 simp only [GW] at e1 ⊢
 generalize ins.map Gd=I at e1 ⊢
 generalize (ins++[(⟨1,t.v⟩:In)]).map Gd=I' at e1 ⊢
 refine Ad (Af (lit:=false) (pm:=fun _=>none) .nil .nil .nil (.cons Atq .nil)) rfl Tryz.func128 rfl (by decide) (by kernel_rfl) ?_
 simp only [Tryz.f128,Ae,lx52,lx63,Nat.reduceAdd,Nat.reduceSub,List.replicate]
 refine Ac ?_
 refine gP0 ?_
 refine Bd ?_
 exact Av4
def exE (p:Int × Int):List AV:=[Jq ⟨3,⟨#[]⟩,p.1,p.2⟩]
noncomputable def f128:=coF 128 exE (fun _ _=>.tu []) (fun p=>[⟨1,p.1⟩]) (fun _=>2) (fun _=>3)
theorem Bkd:Jo Tryz.prog 128 f128:=Ee _ _ _
theorem Bql (D M:List AV) (ins:List In) (hln:ins.length≤10000) (w e:Nat) (R:List Blk) (cnt:Nat) (v a:Int):f128 [.pt 0 w 0 0,Jq ⟨3,⟨#[]⟩,v,a⟩] (GW D M ins w e R) cnt=some (.tu [],GW D M (ins++[⟨1,v⟩]) w (cnt+2) R,cnt+3):=
 SD (enc:=exE) (x:=(v,a)) (fun x y h=>by
  simp only [exE,Jq,lx94,AV.ag.injEq,AV.sc.injEq,Value.int.injEq,AW,C5] at h
  exact Prod.ext h.1 h.2) (Bqj D M ins hln w e R cnt ⟨3,⟨#[]⟩,v,a⟩)
theorem Bke:Ap Tryz.prog 130 [.sc (.int .i64 4)] (.sc (.int .i64 15)):=Fk rfl HL (EY Ak Ak Ak) (n:=60) (G:=mkG [] []) (SA (by kernel_rfl))
theorem Bkf:Ap Tryz.prog 130 [.sc (.int .i64 19)] (.sc (.int .i64 30)):=Fk rfl HL (EY Ak Ak Ak) (n:=60) (G:=mkG [] []) (SA (by kernel_rfl))
theorem Bqm (D M:List AV) (ins:List In) (hln:ins.length≤9000) (w e:Nat) (R:List Blk) (cnt:Nat) (v a1 a0:Int):
  HSpec Tryz.prog 92 [.pt 0 w 0 0,E9 v a1 a0] (GW D M ins w e R) cnt (.tu []) (GW D M (ins++[⟨1,v⟩,⟨15,0⟩]) w (cnt+5) R) (cnt+6):=by
 have e1:=fun R cnt=>Bql D M ins (by omega) w e R cnt v a1
 have e2:=fun e R cnt=>e49 D M (ins++[⟨1,v⟩]) (by simp; omega) w e R cnt 15 0
 have w1:IntKind.i64.wrap 1=1:=rfl
 obtain ⟨F,kF,eF⟩:=Hm Bke
 rw [lx6] at e2
 simp only [lx90,lx64] at e2
 simp only [E9]
 simp only [GW,Jq] at e1 e2 ⊢
 generalize ins.map Gd=I at e1 ⊢
 generalize (ins++[(⟨1,v⟩:In)]).map Gd=I' at e1 e2 ⊢
 generalize (ins++[(⟨1,v⟩:In),⟨15,0⟩]).map Gd=I2 at e2 ⊢
 generalize (ins++[(⟨1,v⟩:In),⟨15,0⟩]).length=n2 at e2 ⊢
 generalize (ins++[(⟨1,v⟩:In)]).length=n1 at e1 e2 ⊢
 refine Ad (Af (lit:=false) (pm:=fun _=>none) (.cons kF .nil) .nil .nil (.cons Bkd (.cons Atq .nil))) rfl Tryz.func92 rfl (by decide) (by kernel_rfl) ?_
 refine Be6 ?_
 refine Bd ?_
 refine Dz (a2 e1 w1) ?_
 refine AD ?_
 exact Av2
theorem Bqn (D M:List AV) (ins:List In) (hln:ins.length≤9000) (w e:Nat) (R:List Blk) (cnt:Nat) (c0:Int):
  HSpec Tryz.prog 92 [.pt 0 w 0 0,JA c0] (GW D M ins w e R) cnt (.tu []) (GW D M (ins++[⟨30,0⟩]) w (cnt+2) R) (cnt+3):=by
 have e2:=fun e R cnt=>e49 D M ins (by omega) w e R cnt 30 0
 obtain ⟨F,kF,eF⟩:=Hm Bkf
 simp only [JA]
 simp only [GW] at e2 ⊢
 generalize ins.map Gd=I at e2 ⊢
 generalize (ins++[(⟨30,0⟩:In)]).map Gd=I2 at e2 ⊢
 generalize (ins++[(⟨30,0⟩:In)]).length=n2 at e2 ⊢
 refine Ad (Af (lit:=false) (pm:=fun _=>none) (.cons kF .nil) .nil .nil (.cons Atq .nil)) rfl Tryz.func92 rfl (by decide) (by kernel_rfl) ?_
 refine Be6 ?_
 refine Bd ?_
 exact Av2
def stE:(Int × Int × Int) ⊕ Int→List AV
 | .inl p=>[E9 p.1 p.2.1 p.2.2]
 | .inr c=>[JA c]
def stN:(Int × Int × Int) ⊕ Int→List In
 | .inl p=>[⟨1,p.1⟩,⟨15,0⟩]
 | .inr _=>[⟨30,0⟩]
def Bkg:(Int × Int × Int) ⊕ Int→Nat
 | .inl _=>5
 | .inr _=>2
theorem Agm (x y:(Int × Int × Int) ⊕ Int) (h:stE x=stE y):x=y:=by
 rcases x with ⟨a,b,c⟩ | c <;> rcases y with ⟨a',b',c'⟩ | c' <;> simp [stE,E9,JA,Jq] at h
 ·obtain ⟨⟨rfl,rfl⟩,rfl⟩:=h; rfl
 ·rw [h]
noncomputable def f92:=coF 92 stE (fun _ _=>.tu []) stN Bkg (fun p=>Bkg p+1)
theorem Bkh:Jo Tryz.prog 92 f92:=Ee _ _ _
theorem Bqo (D M:List AV) (ins:List In) (hln:ins.length≤9000) (w e:Nat) (R:List Blk) (cnt:Nat) (v a1 a0:Int):f92 [.pt 0 w 0 0,E9 v a1 a0] (GW D M ins w e R) cnt=some (.tu [],GW D M (ins++[⟨1,v⟩,⟨15,0⟩]) w (cnt+5) R,cnt+6):=
 SD (enc:=stE) (x:=.inl (v,a1,a0)) Agm (Bqm D M ins hln w e R cnt v a1 a0)
theorem Bqp (D M:List AV) (ins:List In) (hln:ins.length≤9000) (w e:Nat) (R:List Blk) (cnt:Nat) (c0:Int):f92 [.pt 0 w 0 0,JA c0] (GW D M ins w e R) cnt=some (.tu [],GW D M (ins++[⟨30,0⟩]) w (cnt+2) R,cnt+3):=
 SD (enc:=stE) (x:=.inr c0) Agm (Bqn D M ins hln w e R cnt c0)
def Js (v:Int) (c:Bool):List In:=⟨1,v⟩::⟨15,0⟩::bif c then [⟨30,0⟩] else []
def kB (c:Bool):Nat:=bif c then 8 else 5
theorem s48 (D M:List AV) (ins:List In) (hln:ins.length≤8000) (w e:Nat) (R:List Blk) (cnt:Nat) (v a1 a0 c0:Int) (c:Bool):
  HSpec Tryz.prog 48 [.pt 0 w 0 0,.vw false (Hu v a1 a0 c0 c)] (GW D M ins w e R) cnt (.tu []) (GW D M (ins++Js v c) w (cnt+kB c) R) (cnt+kB c+1):=by
 have e1:=fun cnt=>Bqo D M ins (by omega) w e R cnt v a1 a0
 have w1:IntKind.i64.wrap 1=1:=rfl
 cases c with
 | false=>
  simp only [Hu,Js,kB,cond_false]
  generalize GW D M ins w e R=H at e1 ⊢
  have hr:=e1 cnt
  generalize GW D M (ins++[(⟨1,v⟩:In),⟨15,0⟩]) w (cnt+5) R=H1 at hr ⊢
  simp only [E9] at hr ⊢
  refine Ad (Af (lit:=false) (pm:=fun _=>none) .nil .nil .nil (.cons Bkh .nil)) rfl Tryz.func48 rfl (by decide) (by kernel_rfl) ?_
  refine Bdz ?_
  refine Dz (a2 hr w1) ?_
  exact Av1
 | true=>
  have e2:=Bqp D M (ins++[⟨1,v⟩,⟨15,0⟩]) (by simp; omega) w (cnt+5) R (cnt+6) c0
  rw [lx6] at e2
  simp only [Hu,Js,kB,cond_true]
  simp only [lx90,lx64,F0,Nat.reduceAdd] at e2
  have hr:=e1 cnt
  have w2:IntKind.i64.wrap (1+1)=2:=rfl
  generalize GW D M ins w e R=H at hr ⊢
  generalize GW D M (ins++[(⟨1,v⟩:In),⟨15,0⟩]) w (cnt+5) R=H1 at hr e2 ⊢
  generalize GW D M (ins++[(⟨1,v⟩:In),⟨15,0⟩,⟨30,0⟩]) w (cnt+8) R=H2 at e2 ⊢
  simp only [E9,JA] at hr e2 ⊢
  refine Ad (Af (lit:=false) (pm:=fun _=>none) .nil .nil .nil (.cons Bkh .nil)) rfl Tryz.func48 rfl (by decide) (by kernel_rfl) ?_
  refine Bdz ?_
  refine Dz (a2 hr w1) ?_
  refine AD ?_
  refine Dz e2 ?_
  exact Av1
theorem Bki (t:Nat) (x y:Operand) (a b:ByteArray):Da Tryz.prog .neq t x y (.sc (.string a)) (.sc (.string b))=some (.sc (.bool (!(E8 a.data.toList b.data.toList)))):=MZ t x y rfl
def NoN (X:List AV) (nm:ByteArray):Prop:=∀ j,j < X.length→∃ n p hs a,X[j]?=some (Wn n p hs a)∧E8 n.data.toList nm.data.toList=false
theorem Bkj (a0:Int) (X:List AV) (hX:X.length≤16) (h4:Bs 4 X=true) (nm:ByteArray) (hne:E8 wE.data.toList nm.data.toList=false) (hno:NoN X nm):Ap Tryz.prog 124 [EH a0 X,.sc (.string nm)] (.tu [.sc (.int .i64 0),.sc (.int .i64 0)]):=by
 have w1:IntKind.i64.wrap 1=1:=rfl
 simp only [EH,Fm]
 refine Ab (Af (lit:=false) (pm:=fun _=>none) .nil .nil .nil .nil) rfl Tryz.func124 rfl (by decide) (by kernel_rfl) (by kernel_rfl) ?_
 simp only [Tryz.f124,Ae,lx52,lx63,Nat.reduceAdd,Nat.reduceSub,List.replicate]
 refine qd6 ?_
 refine Dz (a3 w1 hne @Bki) ?_
 refine AD ?_
 refine gP0 ?_
 refine Az (σ:=Nat) (fun j cnt=>⟨CW 0 58 [(1,.sc (.string nm)),(2,.pt 0 0 0 0),(8,.sc (.int .i64 (j:Int)))],[⟨true,0,56,2,[.ag [.vw false [.ag [.sc (.int .i64 8),.sc (.string wE),.sc (.int .i64 0),.sc (.int .i64 a0)]],.vw false X]],false⟩],cnt⟩)
  (fun j=>j≤X.length) (fun j=>X.length - j) 0 (by omega) ?_ ?_ rfl ?_
 ·exact Gm
 ·exact DN _ [_]
 rintro j cnt hj ih
 by_cases hjn:j < X.length
 rotate_left
 ·obtain rfl:j=X.length:=by omega
  have h1:decide ((X.length:Int) < (X.length:Int))=false:=AZ
  refine Ac ?_
  refine Cb ?_
  simp (maxSteps:=10000000) +contextual -implicitDefEqProofs only [AX,AT,St.put,↓reduceIte,reduceCtorEq,CS,B9,h1]
  repeat' (first | exact Aa (by kernel_rfl) | refine ⟨Aa (by kernel_rfl),?_⟩ | refine And.intro ?_ ?_ | fail)
  all_goals exact Et
 have h1:decide ((j:Int) < (X.length:Int))=true:=AA (by omega)
 have h0:decide (0≤(j:Int))=true:=AA (by omega)
 have w2:IntKind.i64.wrap ((j:Int)+1)=((j+1:Nat):Int):=B8
 obtain ⟨n,p,hs,a,hg,he⟩:=hno j hjn
 have ih:=ih (j+1) cnt (by omega) (by omega)
 simp only [Wn] at hg
 refine Ac ?_
 refine Cb ?_
 refine Dz (a6 h1 hg h4 he w2 @Asb) ?_
 repeat' (first | exact Aa (by kernel_rfl) | refine ⟨Aa (by kernel_rfl),?_⟩ | refine And.intro ?_ ?_ | fail)
 all_goals exact Acn
end Go.Proofs.YtdjpkhjaibdogaaGreat
namespace Go.Proofs.YtdjpkhjaibdogaaGreat
open Go Go.SX
def ndY (f:Nat):Bool:=bt [87,124,90,88,125,89,126,123,127,85] f
def wNo:ByteArray:=⟨#[]⟩
def t2n (a:List AV):Bool:=match a with
 | [_,.sc (.string ⟨⟨[]⟩⟩)]=>true
 | _=>false
def Aa1 (a0:Int) (X:List AV):List Ent:=[⟨124,t2n,[EH a0 X,.sc (.string wNo)],.tu [.sc (.int .i64 0),.sc (.int .i64 0)]⟩]
section
variable (a0:Int) (X:List AV) (v a1 a2 c0:Int)
theorem Bqq:pL Tryz.prog Cw gY ndY (GU [] []).u 60 87 [EH a0 X,.sc (.string wE),iW 8]=some (iW 0):=by kernel_rfl
theorem Bqr:EX (pO Tryz.prog Cw gY ndY (GU [] []) 60 87 [EH a0 X,.sc (.string wE),iW 8])=(EX (pO Tryz.prog Cw gY ndY (GU [] []) 60 87 [EH a0 X,.sc (.string wE),iW 8])).map (fun q=>(q.1,q.1)):=by kernel_rfl
theorem Bqs:Kc (pO Tryz.prog Cw gY ndY (GU [] []) 60 87 [EH a0 X,.sc (.string wE),iW 8])=[]:=by kernel_rfl
theorem Bqt:pL Tryz.prog Cw gY ndY (GU (Aa1 a0 X) []).u 60 87 [EH a0 X,.sc (.string wNo),iW 0]=some (iW 0):=by kernel_rfl
theorem Bqu:EX (pO Tryz.prog Cw gY ndY (GU (Aa1 a0 X) []) 60 87 [EH a0 X,.sc (.string wNo),iW 0])=(EX (pO Tryz.prog Cw gY ndY (GU (Aa1 a0 X) []) 60 87 [EH a0 X,.sc (.string wNo),iW 0])).map (fun q=>(q.1,q.1)):=by kernel_rfl
theorem Bqv:Kc (pO Tryz.prog Cw gY ndY (GU (Aa1 a0 X) []) 60 87 [EH a0 X,.sc (.string wNo),iW 0])=[]:=by kernel_rfl
theorem Bqw:pL Tryz.prog Cw gY ndY (GU [] []).u 60 89 [EH a0 X,.vw true []]=some (.tu [iW 0,iW 0]):=by kernel_rfl
theorem Bqx:EX (pO Tryz.prog Cw gY ndY (GU [] []) 60 89 [EH a0 X,.vw true []])=(EX (pO Tryz.prog Cw gY ndY (GU [] []) 60 89 [EH a0 X,.vw true []])).map (fun q=>(q.1,q.1)):=by kernel_rfl
theorem Bqy:Kc (pO Tryz.prog Cw gY ndY (GU [] []) 60 89 [EH a0 X,.vw true []])=[]:=by kernel_rfl
end
theorem Bqz (a0:Int) (X:List AV):Ap Tryz.prog 87 [EH a0 X,.sc (.string wE),iW 8] (iW 0):=pY (lp:=[]) (lv:=[]) Cn Cn (Bqq a0 X) (Bqr a0 X) (Bqs a0 X) Fy
theorem Br0 (a0:Int) (X:List AV) (h:Ap Tryz.prog 124 [EH a0 X,.sc (.string wNo)] (.tu [.sc (.int .i64 0),.sc (.int .i64 0)])):Ap Tryz.prog 87 [EH a0 X,.sc (.string wNo),iW 0] (iW 0):=pY (lp:=Aa1 a0 X) (lv:=[]) (Nn h Cn) Cn (Bqt a0 X) (Bqu a0 X) (Bqv a0 X) Fy
theorem Br1 (a0:Int) (X:List AV):Ap Tryz.prog 89 [EH a0 X,.vw true []] (.tu [iW 0,iW 0]):=pY (lp:=[]) (lv:=[]) Cn Cn (Bqw a0 X) (Bqx a0 X) (Bqy a0 X) Fy
theorem pQk {f:Nat} {args:List AV} {r:AV} (h:okE r (pK Tryz.prog Wb (mkG [] []) 60 f args)=true):Ap Tryz.prog f args r:=Fk rfl HL (EY Ak Ak Ak) (SA h)
theorem Bkk:Ap Tryz.prog 125 [iW 4] (iW 0):=pQk (by kernel_rfl)
theorem Bkl:Ap Tryz.prog 125 [iW 19] (iW 0):=pQk (by kernel_rfl)
theorem x88:Ap Tryz.prog 88 [iW 6] (iW 8):=pQk (by kernel_rfl)
theorem Br2:Ap Tryz.prog 123 [iW 8] (iW 2147483647):=pQk (by kernel_rfl)
theorem Br3:Ap Tryz.prog 169 [iW 1] (iW 0):=pQk (by kernel_rfl)
theorem Br4:Ap Tryz.prog 170 [iW 1] (.sc (.bool false)):=pQk (by kernel_rfl)
theorem Bkm:Ap Tryz.prog 124 [.ag [.vw false [],.vw true []],.sc (.string wE)] (.tu [iW 0,iW 0]):=pQk (by kernel_rfl)
end Go.Proofs.YtdjpkhjaibdogaaGreat
namespace Go.Proofs.YtdjpkhjaibdogaaGreat
open Go Go.SX
attribute [local congr] ite_congr
theorem Br5 (a0:Int) (X:List AV) (hXn:norefs X=true) (v a1:Int) (h:Ap Tryz.prog 87 [EH a0 X,.sc (.string wNo),iW 0] (iW 0)):Ap Tryz.prog 126 [EH a0 X,Jq ⟨3,⟨#[]⟩,v,a1⟩] (.tu [iW 1,iW 0,iW 0]):=by
 obtain ⟨F1,k1,e1⟩:=Hm h
 obtain ⟨F2,k2,e2⟩:=Hm Br3
 obtain ⟨F3,k3,e3⟩:=Hm Br4
 simp only [EH,Fm,Jq,iW,wNo] at e1 e2 e3 ⊢
 refine Ab (Af (lit:=false) (pm:=fun _=>none) (.cons k1 (.cons k2 (.cons k3 .nil))) .nil .nil .nil) rfl Tryz.func126 rfl (by decide) (by kernel_rfl) (by kernel_rfl) ?_
 simp only [Tryz.f126,Ae,lx52,lx63,Nat.reduceAdd,Nat.reduceSub,List.replicate]
 refine qd6 ?_
 simp (maxSteps:=10000000) +contextual -implicitDefEqProofs only [AX,AT,Ao,St.put,Am,Aj,Ds,pl,↓reduceIte,reduceCtorEq,Nat.reduceAdd,Nat.reduceEqDiff,Int.reduceLT,Nat.reduceBEq,Nat.reduceLT,CS,Int.reduceAdd,B9,DO,Int.reduceBEq,e1,e2]
 repeat' (first | exact Aa (by kernel_rfl) | refine ⟨Aa (by kernel_rfl),?_⟩ | refine And.intro ?_ ?_ | fail)
 refine Bd ?_
 simp (maxSteps:=10000000) +contextual -implicitDefEqProofs only [AX,AT,St.put,Am,Aj,Ds,pl,↓reduceIte,reduceCtorEq,Nat.reduceEqDiff,Int.reduceLT,Nat.reduceLT,CS,B9,e3]
 repeat' (first | exact Aa (by kernel_rfl) | refine ⟨Aa (by kernel_rfl),?_⟩ | refine And.intro ?_ ?_ | fail)
 all_goals exact Et
theorem s89 (a0:Int) (X:List AV) (hXn:norefs X=true) (v a1 a2 c0:Int) (c:Bool) (h:Ap Tryz.prog 87 [EH a0 X,.sc (.string wNo),iW 0] (iW 0)):Ap Tryz.prog 89 [EH a0 X,.vw false (Hu v a1 a2 c0 c)] (.tu [iW 0,iW 0]):=by
 obtain ⟨F1,k1,e1⟩:=Hm h
 obtain ⟨F2,k2,e2,e2'⟩:=Qk Bkk Bkl (by simp [iW])
 obtain ⟨F3,k3,e3⟩:=Hm (Br5 a0 X hXn v a1 h)
 obtain ⟨F4,k4,e4⟩:=Hm (Br1 a0 X)
 have w1:IntKind.i64.wrap 1=1:=rfl
 have w2:IntKind.i64.wrap 2=2:=rfl
 simp only [EH,Fm,Jq,iW,wNo] at e1 e2 e2' e3 e4 ⊢
 cases c with
 | false=>
  simp only [Hu,E9,JA,Jq,cond_false]
  refine Ab (Af (lit:=false) (pm:=fun _=>none) (.cons k1 (.cons k2 (.cons k3 (.cons k4 .nil)))) .nil .nil .nil) rfl Tryz.func89 rfl (by decide) (by kernel_rfl) (by kernel_rfl) ?_
  refine Be9 ?_
  repeat' (first | exact Aa (by kernel_rfl) | refine ⟨Aa (by kernel_rfl),?_⟩ | refine And.intro ?_ ?_ | fail)
  refine Bdy ?_
  repeat' (first | exact Aa (by kernel_rfl) | refine ⟨Aa (by kernel_rfl),?_⟩ | refine And.intro ?_ ?_ | fail)
  refine Be1 ?_
  repeat' (first | exact Aa (by kernel_rfl) | refine ⟨Aa (by kernel_rfl),?_⟩ | refine And.intro ?_ ?_ | fail)
  refine AD ?_
  simp (maxSteps:=10000000) +contextual -implicitDefEqProofs only [AX,AT,St.put,↓reduceIte,Int.reduceLT,Nat.reduceLT,CS,B9]
  repeat' (first | exact Aa (by kernel_rfl) | refine ⟨Aa (by kernel_rfl),?_⟩ | refine And.intro ?_ ?_ | fail)
  all_goals exact Et
 | true=>
  simp only [Hu,E9,JA,Jq,cond_true]
  refine Ab (Af (lit:=false) (pm:=fun _=>none) (.cons k1 (.cons k2 (.cons k3 (.cons k4 .nil)))) .nil .nil .nil) rfl Tryz.func89 rfl (by decide) (by kernel_rfl) (by kernel_rfl) ?_
  refine Be9 ?_
  repeat' (first | exact Aa (by kernel_rfl) | refine ⟨Aa (by kernel_rfl),?_⟩ | refine And.intro ?_ ?_ | fail)
  refine Bdy ?_
  repeat' (first | exact Aa (by kernel_rfl) | refine ⟨Aa (by kernel_rfl),?_⟩ | refine And.intro ?_ ?_ | fail)
  refine Be1 ?_
  repeat' (first | exact Aa (by kernel_rfl) | refine ⟨Aa (by kernel_rfl),?_⟩ | refine And.intro ?_ ?_ | fail)
  refine AD ?_
  simp (maxSteps:=10000000) +contextual -implicitDefEqProofs only [AX,AT,St.put,Am,Aj,Ds,pl,↓reduceIte,reduceCtorEq,Nat.reduceAdd,Nat.reduceEqDiff,Int.reduceLT,Nat.reduceLT,CS,Int.reduceAdd,B9,DO,norefs,AV.noref,e1,e2']
  repeat' (first | exact Aa (by kernel_rfl) | refine ⟨Aa (by kernel_rfl),?_⟩ | refine And.intro ?_ ?_ | fail)
  refine Bd ?_
  simp (maxSteps:=10000000) +contextual -implicitDefEqProofs only [AX,AT,St.put,Am,Aj,Ds,pl,↓reduceIte,reduceCtorEq,Nat.reduceAdd,Nat.reduceEqDiff,Int.reduceLT,Nat.reduceLT,CS,Int.reduceAdd,B9,e4,w2]
  repeat' (first | exact Aa (by kernel_rfl) | refine ⟨Aa (by kernel_rfl),?_⟩ | refine And.intro ?_ ?_ | fail)
  refine AD ?_
  simp (maxSteps:=10000000) +contextual -implicitDefEqProofs only [AX,AT,St.put,↓reduceIte,Nat.reduceAdd,Int.reduceLT,Nat.reduceLT,CS,Int.reduceAdd,B9]
  repeat' (first | exact Aa (by kernel_rfl) | refine ⟨Aa (by kernel_rfl),?_⟩ | refine And.intro ?_ ?_ | fail)
  all_goals exact Et
end Go.Proofs.YtdjpkhjaibdogaaGreat
namespace Go.Proofs.YtdjpkhjaibdogaaGreat
open Go Go.SX
theorem Ac6 {P:Program} {f n:Nat} (A:Nat→List AV) (R:Nat→AV) (h:∀ j,j < n→Ap P f (A j) (R j)) (hi:∀ i j,i < n→j < n→A i=A j→i=j):∃ F,DC P f F∧∀ j,j < n→F (A j)=some (R j):=by
 refine ⟨fun a=>open Classical in if h:∃ j,j < n∧A j=a then some (R h.choose) else none,?_,fun j hj=>?_⟩
 ·intro a r hr
  simp only at hr
  split at hr
  ·rename_i hx
   obtain ⟨h1,h2⟩:=hx.choose_spec
   have:=h _ h1
   rw [h2] at this
   cases hr
   exact this
  ·cases hr
 ·have hx:∃ i,i < n∧A i=A j:=⟨j,hj,rfl⟩
  simp only [dif_pos hx]
  rw [hi _ _ hx.choose_spec.1 hj hx.choose_spec.2]
section
variable {l:List Pc} (h:PcsO l)
include h
theorem SE {j:Nat} (hj:j < l.length):PcO (l.getD j default):=h.one _ (by rw [lx81,lx50 hj]; exact lx89 hj)
theorem Ait {j:Nat} (hj:j < l.length):DV l j+1≤DV l (j+1):=by
 have:=(SE h hj).len
 rw [KI hj]; omega
theorem KL:∀ d j,j+d≤l.length→DV l j+d≤DV l (j+d)
 | 0,j,_=>Av _
 | d+1,j,hj=>by
  have:=KL d j (by omega)
  have:=Ait h (j:=j+d) (by omega)
  rw [show j+(d+1)=j+d+1 from rfl]; omega
theorem SF {j:Nat} (hj:j < l.length):DV l j+(l.getD j default).w.length < (Fz l).length∧(Gf ⟨⟨Fz l⟩⟩ (DV l j+(l.getD j default).w.length)=32∨Gf ⟨⟨Fz l⟩⟩ (DV l j+(l.getD j default).w.length)=59):=by
 cases hs:(l.getD j default).sp with
 | true=>
  have h1:=Wp hj
  rw [pcB,hs] at h1
  have h2:=(Qq h1).2
  have h3:=Jc h2 (j:=0) (by simp)
  have h4:=Aoj h2 (by simp)
  exact ⟨h4,.inl h3⟩
 | false=>
  obtain ⟨h1,h2⟩:=h.nxt j hj hs
  have h3:=KI hj
  rw [hs] at h3
  simp only [cond_false,Gl] at h3
  have h4:=Wp h1
  rw [pcB] at h4
  have h5:=(Qq h4).1
  rw [h2,h3] at h5
  exact ⟨Aoj h5 (by simp),.inr (Jc h5 (j:=0) (by simp))⟩
theorem Axo {j:Nat} (hj:j < l.length):atB ⟨⟨Fz l⟩⟩ (DV l j) (l.getD j default).w:=have _:=h; (Qq (Wp hj)).1
theorem SG {j:Nat} (hj:j < l.length):nsB (Gf ⟨⟨Fz l⟩⟩ (DV l j))=true:=by
 have h1:=(SE h hj)
 have h2:=Jc (Axo h hj) (j:=0) h1.len.1
 rw [Gl] at h2
 rw [h2]
 exact h1.first
theorem Bb8 {j:Nat} (hj:j < l.length) (hsz:(Fz l).length≤20000):Ap Tryz.prog 132 [.sc (.string ⟨⟨Fz l⟩⟩),.sc (.int .i64 (DV l j:Int))] (.tu [Ey ⟨(l.getD j default).t.k,(l.getD j default).t.tx,(l.getD j default).t.v,(DV l j:Int)⟩,.sc (.int .i64 ((DV l j+(l.getD j default).w.length:Nat):Int)),.sc (.int .i64 0)]):=by
 have ha:=SF h hj
 have hat:=Axo h hj
 have hp:=SE h hj
 have hl:=hp.len
 have hsz':(⟨⟨Fz l⟩⟩:ByteArray).size≤20000:=hsz
 have hlt:DV l j+(l.getD j default).w.length < (⟨⟨Fz l⟩⟩:ByteArray).size:=ha.1
 replace ha:=ha.2
 generalize (⟨⟨Fz l⟩⟩:ByteArray)=b at ha hat hsz' hlt ⊢
 generalize DV l j=i at ha hat hlt ⊢
 generalize l.getD j default=p at ha hat hp hl hlt ⊢
 have g0:=Jc hat (j:=0) hl.1
 rw [Gl] at g0
 cases hp with
 | word q ht h0 hall h12 hz=>
  rw [ht]
  refine Bjy b i _ _ (by omega) (by rw [g0]; exact h0) (Bq7 b i p.w.length _ q (Ate hat) hl.1 h12 hlt (by omega) (fun k hk=>?_) ?_ hz)
  ·rw [Jc hat hk]
   refine hall _ ?_
   rw [lx81,lx50 hk]
   exact lx89 hk
  ·rcases ha with ha | ha <;> rw [ha] <;> decide
 | num v hv ht hw=>
  rw [ht]
  have hb:∀ k,k < 16→(UInt8.ofNat (48+k)).toNat=48+k:=fun k hk=>by rw [UInt8.toNat_ofNat']; omega
  have hdl:∀ k,k≤9→LO (48+k)=false∧digB (48+k)=true:=by decide
  by_cases hv1:v < 10
  ·rw [if_pos hv1] at hw
   rw [hw] at g0 ha hlt ⊢
   have g0:Gf b i=48+v:=g0.trans (hb v hv)
   have hd:=hdl v (by omega)
   refine Axk b i _ _ (by omega) (by rw [g0]; exact hd.1) (by rw [g0]; exact hd.2) (Bjw b i v (by omega) hlt (by omega) g0 ?_)
   rcases ha with ha | ha <;> (show digB (Gf b (i+1))=false) <;> rw [show Gf b (i+1)=_ from ha] <;> decide
  ·rw [if_neg hv1] at hw
   have g1:=Jc hat (j:=1) (by rw [hw]; simp)
   rw [hw] at g0 g1 ha hlt ⊢
   have g0:Gf b i=48+1:=g0
   have g1:Gf b (i+1)=48+(v - 10):=by
    refine g1.trans ?_
    show (UInt8.ofNat (38+v)).toNat=_
    rw [UInt8.toNat_ofNat']; omega
   have:=Bjx b i 1 (v - 10) (by omega) (by omega) hlt (by omega) g0 g1 (by
    rcases ha with ha | ha <;> rw [show Gf b (i+2)=_ from ha] <;> decide)
   rw [show 10 * 1+(v - 10)=v by omega] at this
   have hd:=hdl 1 (by omega)
   exact Axk b i _ _ (by omega) (by rw [g0]; exact hd.1) (by rw [g0]; exact hd.2) this
 | sign ht hw=>
  rw [ht]
  rcases hw with hw | hw | hw
  ·rw [hw] at g0 ha hlt ⊢
   exact Aol b i 59 10 (by simp at hlt; omega) (by omega) g0 (by decide) (by decide) (by decide) (by decide) rfl (by decide)
  ·rw [hw] at g0 ha hlt ⊢
   exact Aol b i 123 6 (by simp at hlt; omega) (by omega) g0 (by decide) (by decide) (by decide) (by decide) rfl (by decide)
  ·rw [hw] at g0 ha hlt ⊢
   exact Aol b i 125 7 (by simp at hlt; omega) (by omega) g0 (by decide) (by decide) (by decide) (by decide) rfl (by decide)
end
def Wv (l:List Pc):Nat→Nat
 | 0=>0
 | j+1=>DV l j+(l.getD j default).w.length
theorem Atr {l:List Pc}:∀ {j:Nat},j≤l.length→Wv l j≤DV l j
 | 0,_=>Av 0
 | j+1,hj=>by rw [KI (by omega),Wv]; omega
theorem Ago {l:List Pc} (h:PcsO l) {i j:Nat} (hij:i < j) (hj:j≤l.length):Wv l i < Wv l j:=by
 obtain ⟨d,rfl⟩:∃ d,j=i+d+1:=⟨j - i - 1,by omega⟩
 have h1:=Atr (l:=l) (j:=i) (by omega)
 have h2:=KL h d i (by omega)
 have h3:=(SE h (j:=i+d) (by omega)).len
 rw [Wv]; omega
theorem Ats {l:List Pc} (h:PcsO l) (h0:0 < l.length) (hsz:(Fz l).length≤20000):∀ {j:Nat},j≤l.length→Ap Tryz.prog 131 [.sc (.string ⟨⟨Fz l⟩⟩),.sc (.int .i64 (Wv l j:Int))] (.sc (.int .i64 (DV l j:Int)))
 | 0,_=>by
  have h1:=SG h h0
  have h2:=SF h h0
  have hl:=(SE h h0).len
  exact Axj ⟨⟨Fz l⟩⟩ 0 (show 0 < (Fz l).length by omega) h1
 | j+1,hj=>by
  have h2:=SF h (j:=j) (by omega)
  have h3:=KI (l:=l) (j:=j) (by omega)
  rw [Wv]
  cases hs:(l.getD j default).sp with
  | false=>
   obtain ⟨h4,_⟩:=h.nxt j (by omega) hs
   rw [hs] at h3
   simp only [cond_false,Gl] at h3
   have h1:=SG h h4
   rw [h3] at h1 ⊢
   exact Axj ⟨⟨Fz l⟩⟩ _ h2.1 h1
  | true=>
   rw [hs] at h3
   simp only [cond_true] at h3
   have h5:Gf ⟨⟨Fz l⟩⟩ (DV l j+(l.getD j default).w.length)=32:=by
    have h1:=Wp (l:=l) (j:=j) (by omega)
    rw [pcB,hs] at h1
    exact Jc (Qq h1).2 (j:=0) (by simp)
   rw [h3]
   refine Bjt ⟨⟨Fz l⟩⟩ _ h2.1 (by have:=h2.1; omega) h5 ?_
   by_cases hn:j+1=l.length
   ·left
    have:=Z3 l
    rw [←hn,h3] at this
    exact this
   ·right
    have h1:=SG h (j:=j+1) (by omega)
    have h6:=SF h (j:=j+1) (by omega)
    rw [h3] at h1 h6
    exact ⟨show _ < (Fz l).length by omega,h1⟩
theorem Att {l:List Pc} (h:PcsO l) (h0:0 < l.length) (hl:l.length≤1000) (hsz:(Fz l).length≤20000):Ba Tryz.prog 93 [.sc (.string ⟨⟨Fz l⟩⟩)] (.tu [.vw false ((LL (l.map (·.t)) fun j=>(DV l j:Int)).map Ey),.sc (.int .i64 0),.sc (.int .i64 0)]):=by
 obtain ⟨F1,k1,e1⟩:=Ac6 (n:=l.length+1) (fun j=>[.sc (.string ⟨⟨Fz l⟩⟩),.sc (.int .i64 (Wv l j:Int))]) (fun j=>.sc (.int .i64 (DV l j:Int))) (fun j hj=>Ats h h0 hsz (by omega)) (fun i j hi hj he=>by
  simp only [lx94,AV.sc.injEq,Value.int.injEq,AW,C5] at he
  rcases Nat.lt_trichotomy i j with g | g | g
  ·have:=Ago h g (by omega); omega
  ·exact g
  ·have:=Ago h g (by omega); omega)
 obtain ⟨F2,k2,e2⟩:=Ac6 (n:=l.length) (fun j=>[.sc (.string ⟨⟨Fz l⟩⟩),.sc (.int .i64 (DV l j:Int))]) (fun j=>.tu [Ey ⟨(l.getD j default).t.k,(l.getD j default).t.tx,(l.getD j default).t.v,(DV l j:Int)⟩,.sc (.int .i64 ((DV l j+(l.getD j default).w.length:Nat):Int)),.sc (.int .i64 0)]) (fun j hj=>Bb8 h hj hsz) (fun i j hi hj he=>by
  simp only [lx94,AV.sc.injEq,Value.int.injEq,AW,C5] at he
  rcases Nat.lt_trichotomy i j with g | g | g
  ·have:=KL h (j - i) i (by omega)
   rw [show i+(j - i)=j by omega] at this; omega
  ·exact g
  ·have:=KL h (i - j) j (by omega)
   rw [show j+(i - j)=i by omega] at this; omega)
 refine s93 ⟨⟨Fz l⟩⟩ _ l.length (by rw [KF,lx57]) (by omega) (Wv l) (DV l) k1 k2 (fun j hj=>e1 j (by omega)) (fun j hj=>?_) (fun j hj=>?_) (Z3 l) rfl hsz
 ·rw [Ag6 (by rw [lx57]; exact hj)]
  have hg:(l.map (·.t)).getD j default=(l.getD j default).t:=by
   rw [lx81,lx23,lx81,lx50 hj]; rfl
  rw [hg]
  exact e2 j hj
 ·have:=SF h hj
  show _ < (Fz l).length
  omega
end Go.Proofs.YtdjpkhjaibdogaaGreat
