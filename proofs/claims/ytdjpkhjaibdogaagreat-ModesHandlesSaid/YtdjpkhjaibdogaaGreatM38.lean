/-
  Lemmas towards ModesHandles (joined texts: GK, GL, GM, GN, GO).
  Conditions: none.
-/
import Derived.Test.YtdjpkhjaibdogaaGreatM01
import Derived.Test.YtdjpkhjaibdogaaGreatM02
import Derived.Test.YtdjpkhjaibdogaaGreatM27
import Derived.Test.YtdjpkhjaibdogaaGreatM37
import Derived.Test.YtdjpkhjaibdogaaGreatM19
set_option linter.unusedSimpArgs false
set_option linter.unusedVariables false
set_option maxRecDepth 100000
set_option maxHeartbeats 8000000
namespace Go.Proofs.YtdjpkhjaibdogaaGreat
open Go Go.SX
attribute [local congr] ite_congr
theorem Aby {H:List Blk} {id:Nat} (h:id < H.length) (b z:Blk):(H++[b]).set id z=H.set id z++[b]:=by
 rw [List.set_append_left _ _ h]
theorem Uh (ls:List Lo) (x:Lo) (hn:ls.length≤100000) (H:List Blk) (id v u:Nat) (tmp:Bool) (hB:H[id]?=some ⟨true,v,82,6,ls.map Bg,false⟩) (cnt:Nat):
  HSpec Tryz.prog 234 [.sl id v 0 ls.length,.sc (.int .i64 (ls.length:Int)),.sl H.length u 0 1] (H++[⟨true,u,82,6,[Bg x],tmp⟩]) cnt (.sl id cnt 0 (ls.length+1)) (H.set id ⟨true,cnt,82,6,(ls++[x]).map Bg,false⟩) (cnt+1):=by
 have hid:id < H.length:=(lx22.1 hB).1
 have g1:∀ b,(H++[b])[id]?=some ⟨true,v,82,6,ls.map Bg,false⟩:=fun b=>by rw [lx61 hid]; exact hB
 have g2:=fun b z=>Aby hid b z
 have hz:decide ((ls.length+1) * 48≤140737488355328)=true:=Ae
 have tl:(ls.map Bg).take ls.length=ls.map Bg:=lx118 (by simp)
 have q1:decide ((0:Int)≤(ls.length:Int))=true:=Ae
 have q2:decide ((ls.length:Int)≤(ls.length:Int))=true:=Bc
 refine Ag (Aj (lit:=true) (pm:=fun _=>none) .nil .nil .nil .nil) rfl Tryz.func234 rfl (by decide) (by kernel_rfl) ?_
 simp only [Tryz.f234,Af,lx53,lx63,Nat.reduceAdd,Nat.reduceSub,List.replicate]
 refine Ab ?_
 cases tmp
 all_goals simp (maxSteps:=10000000) +contextual -implicitDefEqProofs only [AX,AW,St.put,↓reduceIte,Nat.reduceAdd,Int.reduceLT,Nat.reduceBEq,Nat.reduceLT,Dd,Int.reduceAdd,CO,Co,BU,B7,Dw,Cp,Bb,Int.reduceBEq,g1,g2,hz,tl,q2,hB,lx5,lx3,List.dropLast_concat,lx12]
 all_goals try repeat' (first | exact Ac (by kernel_rfl) | refine ⟨Ac (by kernel_rfl),?_⟩ | refine And.intro ?_ ?_ | fail)
 all_goals first | exact .refl _ | exact .inl rfl | exact C8 _ _ _ | skip
 all_goals done
theorem Ajm (ls:List Lo) (x:Lo) (i:Nat) (hi:i≤ls.length) (hn:ls.length≤100000) (H:List Blk) (id v u:Nat) (tmp:Bool) (hB:H[id]?=some ⟨true,v,82,6,ls.map Bg,false⟩) (cnt:Nat):
  HSpec Tryz.prog 234 [.sl id v 0 ls.length,.sc (.int .i64 (i:Int)),.sl H.length u 0 1] (H++[⟨true,u,82,6,[Bg x],tmp⟩]) cnt (.sl id cnt 0 (ls.length+1)) (H.set id ⟨true,cnt,82,6,(ls.take i++x::ls.drop i).map Bg,false⟩) (cnt+1):=by
 have hid:id < H.length:=(lx22.1 hB).1
 rcases Nat.lt_or_eq_of_le hi with h | rfl
 ·have:=W8 ls x i h hn (H++[⟨true,u,82,6,[Bg x],tmp⟩]) id H.length v u tmp (by rw [lx61 hid]; exact hB) (lx3 ..) (by omega) cnt
  refine this.wk (.refl _) ?_ (Aw _)
  rw [Aby hid]
  exact C8 _ _ _
 ·have:=Uh ls x hn H id v u tmp hB cnt
  rw [lx74,List.drop_length]
  exact this
def D5 (x:Lo) (l:List Lo):Nat:=(l.filter fun y=>decide (Eo y x)).length
def MO (x:Lo) (l:List Lo):Bool:=decide (D5 x l < l.length) && (Iq (l.getD (D5 x l) default) x == 0)
theorem LK {x:Lo}:∀ {l:List Lo},HP l→∀ i,i < l.length→(Eo (l.getD i default) x↔i < D5 x l)
 | [],_,i,hi=>by simp at hi
 | y::l,h,i,hi=>by
  have hh:=lx126.1 h
  by_cases hy:Eo y x
  ·have e:D5 x (y::l)=D5 x l+1:=by simp [D5,List.filter_cons,hy]
   rw [e]
   cases i with
   | zero=>simp [hy]
   | succ i=>
    have:=LK hh.2 i (by simpa using hi) (x:=x)
    simp only [lx125]
    rw [this]; omega
  ·have hno:∀ z ∈ l,¬ Eo z x:=fun z hz hc=>by
    have:=hh.1 z hz
    exact hy (Jr this hc)
   have e:D5 x (y::l)=0:=by
    simp only [D5,List.filter_cons,hy,decide_false,Dt,lx7]
    rw [List.filter_eq_nil_iff.2 (fun z hz=>by simpa using hno z hz)]; rfl
   rw [e]
   constructor
   ·intro hc
    cases i with
    | zero=>exact absurd hc hy
    | succ i=>
     simp only [lx125] at hc
     have hi':i < l.length:=by simpa using hi
     rw [lx80,lx51 hi'] at hc
     exact absurd hc (hno _ (lx90 hi'))
   ·intro hc; omega
theorem Ajn {a b:Lo}:(Iq a b == 0)=decide (Kp a b):=by
 have h1:=MN (a:=a) (b:=b)
 have h2:GG a.mo b.mo=0↔a.mo=b.mo:=by unfold GG; split <;> (try split) <;> omega
 have h3:GG a.la b.la=0↔a.la=b.la:=by unfold GG; split <;> (try split) <;> omega
 have h4:Iq a b=0↔Kp a b:=by
  rw [Iq,Abf]
  unfold Kp
  by_cases h:GG a.mo b.mo=0
  ·rw [if_pos h,h3]; have:=h2.1 h; omega
  ·rw [if_neg h]
   have:¬ a.mo=b.mo:=fun hh=>h (h2.2 hh)
   constructor
   ·intro hc; exact absurd hc h
   ·intro hc; exact absurd hc.1 this
 by_cases h:Kp a b
 ·rw [Iw h,h4.2 h]; rfl
 ·rw [F3 h,lx113]; exact fun hc=>h (h4.1 hc)
theorem Anq {n h:Nat} (hn:n≤1000000) (hh:n / 2=h):IntKind.i64.wrap (ID .u64 (IntKind.u64.wrap (n:Int)) 1)=(h:Int):=by
 have e1:IntKind.u64.wrap (n:Int)=(n:Int):=D6 (by omega) (by omega)
 have e:min ((1:Int).toNat) (IntKind.bits .u64)=1:=rfl
 rw [e1,ID,e,Int.fdiv_eq_ediv_of_nonneg _ (by decide),Ba (by omega) (by omega)]
 omega
theorem Abz (x:Lo) (l:List Lo):D5 x l≤l.length:=lx86 _ _
theorem Q4 {x:Lo}:∀ {l:List Lo},HP l→Kq x l=if MO x l=true then l.set (D5 x l) x else l.take (D5 x l)++x::l.drop (D5 x l)
 | [],_=>by simp [Kq,MO,D5]
 | y::l,h=>by
  have hh:=lx126.1 h
  by_cases hy:Eo y x
  ·have e:D5 x (y::l)=D5 x l+1:=by simp [D5,List.filter_cons,hy]
   have e2:MO x (y::l)=MO x l:=by simp [MO,e]
   rw [Kq,if_pos hy,Q4 hh.2,e2,e]
   by_cases hc:MO x l=true
   ·rw [if_pos hc,if_pos hc]; rfl
   ·rw [if_neg hc,if_neg hc]; rfl
  ·have e:D5 x (y::l)=0:=by
    rcases Nat.eq_zero_or_pos (D5 x (y::l)) with h0 | h0
    ·exact h0
    ·exact absurd ((LK h 0 (by simp)).2 h0) hy
   have e2:MO x (y::l)=decide (Kp y x):=by
    simp only [MO,e,lx124,Ajn]
    simp
   rw [Kq,if_neg hy,e2,e]
   by_cases hc:Kp y x
   ·rw [if_pos hc,if_pos (by simpa using hc)]; rfl
   ·rw [if_neg hc,if_neg (by simpa using hc)]; rfl
def bsQ (p:(Bool × List Lo) × Lo):Prop:=HP p.1.2∧p.1.2.length≤100000
def bsA (x:Lo) (l:List Lo):AV:=.tu [.sc (.int .i64 (D5 x l:Nat)),.sc (.bool (MO x l))]
noncomputable def f233:=Er bsQ (fun p=>[.vw p.1.1 (p.1.2.map Bg),Bg p.2,.fn 80 []]) (fun p=>bsA p.2 p.1.2)
theorem Bcb (z:Bool) (l:List Lo) (x:Lo) (h:HP l) (hl1:l.length≤100000):f233 [.vw z (l.map Bg),Bg x,.fn 80 []]=some (bsA x l):=
 (AJ (q:=bsQ) (enc:=fun p=>[.vw p.1.1 (p.1.2.map Bg),Bg p.2,.fn 80 []]) (out:=fun p=>bsA p.2 p.1.2) ((z,l),x) ⟨h,hl1⟩ (by
  rintro ⟨⟨z',l'⟩,x'⟩ h
  simp only [lx96,AV.vw.injEq,Ie,Az] at h
  rw [h.1.1,h.1.2,KH h.2]) :)
theorem Arv:DK Tryz.prog 233 f233:=AE <| by
 rintro ⟨⟨z,l⟩,x⟩ ⟨hso,hl1⟩
 simp only at hso hl1
 have x1:=fun a=>e80 a x
 have hp:=Abz x l
 simp only
 refine Ad (Mf (.cons Bb4 .nil)) rfl Tryz.func233 rfl (by decide) (by kernel_rfl) (by simp [bsA,okc,Afk,Value.oneCell']) ?_
 simp only [Tryz.f233,Af,lx53,lx63,Nat.reduceAdd,Nat.reduceSub,List.replicate]
 refine Ab ?_
 refine gG0 ?_
 have hsf:=fun i hi=>LK hso (x:=x) i hi
 have ho:=fun a=>MN (a:=a) (b:=x)
 refine Am (σ:=Nat × Nat) (fun y cnt=>⟨Bm 0 49 [(0,.vw z (l.map Bg)),(1,Bg x),(2,.fn 80 []),(4,.pt 0 0 0 0),(8,.sc (.int .i64 l.length)),(9,.sc (.int .i64 (y.1:Int))),(10,.sc (.int .i64 (y.2:Int)))],[⟨true,0,82,6,[Bg x],false⟩],cnt⟩)
  (fun y=>y.1≤D5 x l∧D5 x l≤y.2∧y.2≤l.length) (fun y=>y.2 - y.1) (0,l.length) ⟨BT _,hp,Aw _⟩ ?_ ?_ rfl ?_
 ·simp (maxSteps:=10000000) only [AX,AW,↓reduceIte,reduceCtorEq,Nat.reduceAdd,Nat.reduceEqDiff,Bm,D2,Bb]
  all_goals done
 ·simp only [Bb]; exact AM _
 rintro ⟨i,j⟩ cnt ⟨hi,hj,hjl⟩ ih
 simp only at hi hj hjl
 by_cases hlt:i < j
 ·have hb:decide ((i:Int) < (j:Int))=true:=by rw [AR]; omega
  obtain ⟨h,hh⟩:∃ h,(i+j) / 2=h:=⟨_,rfl⟩
  have h1:i≤h∧h < j:=Ai
  have w1:IntKind.i64.wrap ((i:Int)+(j:Int))=((i+j:Nat):Int):=Ay
  have w2:IntKind.i64.wrap ((h:Int)+1)=((h+1:Nat):Int):=Ay
  have w3:=Anq (n:=i+j) (by omega) hh
  have hb2:decide (h < l.length)=true:=Ae
  have hb4:decide ((h:Int) < ((l.length:Nat):Int))=true:=Ae
  obtain ⟨y,hg⟩:∃ y,l.getD h default=y:=⟨_,rfl⟩
  have hc:=hsf h (by omega)
  rw [hg] at hc
  have hy:=ho y
  have x2:=x1 y
  have ih1:=fun hc2 c'=>ih (h+1,j) c' ⟨hc2,hj,hjl⟩ (by simp only; omega)
  have ih2:=fun hc2 c'=>ih (i,h) c' ⟨hi,hc2,by omega⟩ (by simp only; omega)
  clear ih hsf ho x1
  simp only [Bb] at x2
  refine Ab ?_
  refine BJ ?_
  by_cases hyl:Iq y x < 0
  ·have c0:decide (Iq y x < 0)=true:=by rw [AR]; exact hyl
   simp (maxSteps:=10000000) +contextual -implicitDefEqProofs only [AX,AW,St.put,Ao,Al,DN,pl,↓reduceIte,Nat.reduceAdd,Dd,Int.reduceAdd,CO,Bb,norefs,AV.noref,hb,w1,w2,w3,hb2,hb4,hg,x2,c0,BS,Ax]
   refine Av ?_ ?_ (Aw _) (ih1 (by have:=hc.1 (hy.1 hyl); omega) _)
   all_goals exact Asa
  ·have c0:decide (Iq y x < 0)=false:=by rw [Bz]; exact hyl
   simp (maxSteps:=10000000) +contextual -implicitDefEqProofs only [AX,AW,St.put,Ao,Al,DN,pl,↓reduceIte,Nat.reduceAdd,Dd,Int.reduceAdd,CO,Bb,norefs,AV.noref,hb,w1,w3,hb2,hb4,hg,x2,c0,BS,Ax]
   refine Av ?_ ?_ (Aw _) (ih2 (by
    rcases Ec h (D5 x l) with g | g
    ·exact absurd (hy.2 (hc.2 g)) hyl
    ·exact g) _)
   all_goals exact Asa
 ·obtain rfl:i=D5 x l:=by omega
  obtain rfl:j=D5 x l:=Ai
  have hb:decide (((D5 x l:Nat):Int) < ((D5 x l:Nat):Int))=false:=Bc
  clear ih hsf ho
  have hhit:MO x l=(decide (D5 x l < l.length) && (Iq (l.getD (D5 x l) default) x == 0)):=rfl
  rw [bsA,hhit]
  generalize D5 x l=p at *
  by_cases hpl:p < l.length
  ·have hb2:decide (p < l.length)=true:=by rw [AR]; exact hpl
   have hb3:decide ((p:Int) < ((l.length:Nat):Int))=true:=Ae
   obtain ⟨y,hg⟩:∃ y,l.getD p default=y:=⟨_,rfl⟩
   have x2:=x1 y
   rw [hg,hb2]
   simp only [Bb] at x2
   refine Ab ?_
   refine BJ ?_
   exact zG1 (a5 hb hb2 hb3 hg x2)
   all_goals done
  ·have hb2:decide (p < l.length)=false:=by rw [Bz]; exact hpl
   have hb3:decide ((p:Int) < ((l.length:Nat):Int))=false:=HY
   rw [hb2]
   refine Ab ?_
   refine BJ ?_
   exact zG1 (a3 hb hb3 @Ex)
   all_goals done
def Oc (c:Cd) (x:Cx) (r:Ru) (w e p f m:Nat):Blk:=⟨true,w,138,18,[.ag [.vw c.zi (c.ins.map BY),.vw c.zs (c.strs.map stA),.vw c.ze (c.ens.map D3),.vw c.zp (c.pri.map (kA .i64)),.vw c.zv (c.vars.map (kA .i64)),.sc (.int .i64 c.tim),.sc (.int .i64 c.evs),
 .vw false (r.s.vars.map (kA .i64)),.sl 3 f 0 r.s.left.length,.sc (.int .u32 r.s.act),.sl 4 m 0 r.s.lamps.length,.sc (.int .i64 r.s.fau),.sc (.int .i64 x.ti),.sc (.int .u64 x.clo),.sc (.int .i64 x.pl'),.sc (.int .i64 x.ba),.sl 1 e 0 r.ef.length,.sl 2 p 0 r.po.length]],false⟩
def DH (c:Cd) (x:Cx) (r:Ru) (w e p f m:Nat) (R:List Blk):List Blk:=Oc c x r w e p f m::⟨true,e,73,5,r.ef.map C6,false⟩::⟨true,p,46,3,r.po.map CV,false⟩::⟨true,f,3,1,r.s.left.map (kA .i64),false⟩::⟨true,m,82,6,r.s.lamps.map Bg,false⟩::R
theorem Ui {c:Cd} {x:Cx} {r r':Ru} {w e p f m w' e' p' f' m':Nat} {R R':List Blk} (h:DH c x r w e p f m R=DH c x r' w' e' p' f' m' R'):Q2 r=Q2 r'∧w=w'∧e=e'∧p=p'∧f=f'∧m=m'∧R=R':=by
 obtain ⟨⟨zv,vars,zl,left,act,zm,lamps,fau⟩,ef,po⟩:=r
 obtain ⟨⟨zv',vars',zl',left',act',zm',lamps',fau'⟩,ef',po'⟩:=r'
 simp only [DH,Oc,lx96,Blk.mk.injEq,AV.ag.injEq,AV.sl.injEq,AV.vw.injEq,AV.sc.injEq,Value.int.injEq,Az,Du] at h
 obtain ⟨⟨rfl,g1,⟨rfl,_⟩,rfl,⟨rfl,_⟩,rfl,⟨rfl,_⟩,rfl,_⟩,g2,g3,g4,g5,rfl⟩:=h
 obtain rfl:=Gl g1
 obtain rfl:=KK.1 g2.2
 obtain rfl:=TZ.1 g3.2
 obtain rfl:=Gl g4.2
 obtain rfl:=Ie.1 g5.2
 simp [Q2]
theorem Xt (c:Cd) (x:Cx) (r:Ru) (hf:0≤r.s.fau∧r.s.fau≤2147483647) (w e p f m:Nat) (R:List Blk) (cnt:Nat):
  HSpec Tryz.prog 105 [.pt 0 w 0 0] (DH c x r w e p f m R) cnt (.tu []) (DH c x (Nv r) w e p f m R) cnt:=by
 obtain ⟨⟨zv,vars,zl,left,act,zm,lamps,fau⟩,ef,po⟩:=r
 simp only at hf
 have w1:IntKind.i64.wrap (fau+1)=fau+1:=Ba (by omega) (by omega)
 refine Ag (Aj (lit:=true) (pm:=fun _=>none) .nil .nil .nil .nil) rfl Tryz.func105 rfl (by decide) (by kernel_rfl) ?_
 simp only [Tryz.f105,Af,lx53,lx63,Nat.reduceAdd,Nat.reduceSub,List.replicate]
 simp only [DH,Oc,Nv]
 refine Ab ?_
 refine LR w1 ?_
 exact Ut
structure SetQ (m:Int) (r:Ru):Prop where
 own:0≤m∧m < 32
 so:HP r.s.lamps
 len:r.s.lamps.length≤90000
theorem Anr (c:Cd) (x:Cx) (mo i:Int) (se:Lm) (r:Ru) (h:SetQ mo r) (hz:BV r.s.act mo=false) (w e p f m:Nat) (R:List Blk) (cnt:Nat):
  HSpec Tryz.prog 208 [.pt 0 w 0 0,.sc (.int .i64 mo),.sc (.int .i64 i),lmA se] (DH c x r w e p f m R) cnt (.tu []) (DH c x r w e p f m R) (cnt+1):=by
 obtain ⟨h1,h2,h3⟩:=h
 obtain ⟨⟨zv,vars,zl,left,act,zm,lamps,fau⟩,ef,po⟩:=r
 simp only at hz h2 h3
 have E58:=e58 ⟨false,vars,false,left,act,false,lamps,fau⟩ mo ⟨by omega,by omega⟩
 simp only [Aq,hz] at E58
 have tl:(left.map (kA .i64)).take left.length=left.map (kA .i64):=lx118 (by simp)
 have tm:(lamps.map Bg).take lamps.length=lamps.map Bg:=lx118 (by simp)
 refine Ag (Aj (lit:=true) (pm:=fun _=>none) (.cons Adf .nil) .nil .nil .nil) rfl Tryz.func208 rfl (by decide) (by kernel_rfl) ?_
 refine Asj ?_
 refine LR (a3 E58 tl tm) ?_
 exact Ut
theorem Ajo (c:Cd) (x:Cx) (mo i:Int) (se:Lm) (r:Ru) (h:SetQ mo r) (hz:BV r.s.act mo=true) (hh:MO ⟨mo,i,se⟩ r.s.lamps=true) (w e p f m:Nat) (R:List Blk) (cnt:Nat):
  HSpec Tryz.prog 208 [.pt 0 w 0 0,.sc (.int .i64 mo),.sc (.int .i64 i),lmA se] (DH c x r w e p f m R) cnt (.tu []) (DH c x (El r mo i se) w e p f m R) (cnt+1+1):=by
 have hR:El r mo i se={ r with s:={ r.s with zm:=false,lamps:=r.s.lamps.set (D5 ⟨mo,i,se⟩ r.s.lamps) ⟨mo,i,se⟩ } }:=by
  rw [El,if_pos hz,MI h.so,Q4 h.so,if_pos hh]
 rw [hR]
 obtain ⟨h1,h2,h3⟩:=h
 obtain ⟨⟨zv,vars,zl,left,act,zm,lamps,fau⟩,ef,po⟩:=r
 simp only at hz hh h2 h3
 have E58:=e58 ⟨false,vars,false,left,act,false,lamps,fau⟩ mo ⟨by omega,by omega⟩
 have E233:=Bcb false lamps ⟨mo,i,se⟩ h2 (by omega)
 have hp:D5 ⟨mo,i,se⟩ lamps < lamps.length:=by
  simp only [MO,AT,AR] at hh
  exact hh.1
 obtain ⟨lv,on,off,si⟩:=se
 simp only [Aq,Bb,hz,bsA,hh] at E58 E233
 generalize D5 ⟨mo,i,⟨lv,on,off,si⟩⟩ lamps=q at *
 have hq:decide ((q:Int) < ((lamps.length:Nat):Int))=true:=Ae
 have hq2:decide (q < lamps.length)=true:=Ae
 have hm:(lamps.map Bg).set q (.ag [.sc (.int .i64 mo),.sc (.int .i64 i),.sc (.int .i64 lv),.sc (.int .i64 on),.sc (.int .i64 off),.sc (.int .i64 si)])=(lamps.set q ⟨mo,i,⟨lv,on,off,si⟩⟩).map Bg:=Rp
 have tl:(left.map (kA .i64)).take left.length=left.map (kA .i64):=lx118 (by simp)
 have tm:(lamps.map Bg).take lamps.length=lamps.map Bg:=lx118 (by simp)
 refine Ag (Aj (lit:=true) (pm:=fun _=>none) (.cons Adf (.cons Arv .nil)) .nil .nil .nil) rfl Tryz.func208 rfl (by decide) (by kernel_rfl) ?_
 refine Asj ?_
 refine LR (a7 E58 E233 tl tm hq hq2 hm) ?_
 exact Ut
theorem Ajp (c:Cd) (x:Cx) (mo i:Int) (se:Lm) (r:Ru) (h:SetQ mo r) (hz:BV r.s.act mo=true) (hh:MO ⟨mo,i,se⟩ r.s.lamps=false) (w e p f m:Nat) (R:List Blk) (cnt:Nat):
  HSpec Tryz.prog 208 [.pt 0 w 0 0,.sc (.int .i64 mo),.sc (.int .i64 i),lmA se] (DH c x r w e p f m R) cnt (.tu []) (DH c x (El r mo i se) w e p f (cnt+1+1+1) R) (cnt+1+1+1+1):=by
 have hR:El r mo i se={ r with s:={ r.s with zm:=false,lamps:=r.s.lamps.take (D5 ⟨mo,i,se⟩ r.s.lamps)++⟨mo,i,se⟩::r.s.lamps.drop (D5 ⟨mo,i,se⟩ r.s.lamps) } }:=by
  rw [El,if_pos hz,MI h.so,Q4 h.so,if_neg (by rw [hh]; simp)]
 rw [hR]
 obtain ⟨h1,h2,h3⟩:=h
 obtain ⟨⟨zv,vars,zl,left,act,zm,lamps,fau⟩,ef,po⟩:=r
 simp only at hz hh h2 h3
 have E58:=e58 ⟨false,vars,false,left,act,false,lamps,fau⟩ mo ⟨by omega,by omega⟩
 have E233:=Bcb false lamps ⟨mo,i,se⟩ h2 (by omega)
 have hp:=Abz ⟨mo,i,se⟩ lamps
 obtain ⟨F,kF,E⟩:=Dz (Ajm lamps ⟨mo,i,se⟩ (D5 ⟨mo,i,se⟩ lamps) hp (by omega) (DH c x ⟨⟨zv,vars,zl,left,act,zm,lamps,fau⟩,ef,po⟩ w e p f m (R++[⟨true,cnt,78,4,[lmA se],false⟩,⟨true,cnt+1,82,6,[Bg ⟨mo,i,se⟩],false⟩])) 4 m (cnt+1+1) true rfl (cnt+1+1+1))
 obtain ⟨lv,on,off,si⟩:=se
 simp only [Aq,Bb,hz,bsA,hh] at E58 E233
 have hlen:(lamps.take (D5 ⟨mo,i,⟨lv,on,off,si⟩⟩ lamps)++⟨mo,i,⟨lv,on,off,si⟩⟩::lamps.drop (D5 ⟨mo,i,⟨lv,on,off,si⟩⟩ lamps)).length=lamps.length+1:=E9
 generalize D5 ⟨mo,i,⟨lv,on,off,si⟩⟩ lamps=q at *
 generalize lamps.take q++⟨mo,i,⟨lv,on,off,si⟩⟩::lamps.drop q=L at *
 simp only [DH,Oc,Bb,HH,lx91,lx64,lx4,lx53,lx5,lx63,lx11,lx117,Nat.reduceAdd,B4] at E
 have tl:(left.map (kA .i64)).take left.length=left.map (kA .i64):=lx118 (by simp)
 have tm:(lamps.map Bg).take lamps.length=lamps.map Bg:=lx118 (by simp)
 refine Ag (Aj (lit:=true) (pm:=fun _=>none) (.cons Adf (.cons Arv .nil)) .nil .nil (.cons kF .nil)) rfl Tryz.func208 rfl (by decide) (by kernel_rfl) ?_
 refine Asj ?_
 refine LR (a6 E58 E233 E tl tm hlen) ?_
 exact Ut
def LN (p:Lo→Bool) (s:List Lo):Nat→List Lo
 | 0=>[]
 | k+1=>if p (s.getD k default)=true then LN p s k++[s.getD k default] else LN p s k
theorem MP (p:Lo→Bool) (s:List Lo):∀ k,(LN p s k).length≤k
 | 0=>Aw _
 | k+1=>by
  have:=MP p s k
  rw [LN]
  split
  ·simp; omega
  ·omega
theorem Xu (p:Lo→Bool) (s:List Lo):∀ k,k≤s.length→LN p s k=(s.take k).filter p
 | 0,_=>by simp [LN]
 | k+1,h=>by
  have hg:s.getD k default=s[k]:=by rw [lx80,lx51 (by omega)]; rfl
  rw [LN,Xu p s k (by omega),lx115 (by omega),List.filter_append,hg]
  by_cases hp:p s[k]=true
  ·rw [if_pos hp,List.filter_cons_of_pos hp,List.filter_nil]
  ·rw [if_neg hp,List.filter_cons_of_neg hp,List.filter_nil,lx66]
theorem Ans (p:Lo→Bool) (s:List Lo):LN p s s.length=s.filter p:=by
 rw [Xu p s _ (Aw _),lx74]
theorem Ajq {α:Type} [Inhabited α] (p:α→Bool) (l:List α):(∃ r,r < l.length∧p (l.getD r default)=true∧∀ j,j < r→p (l.getD j default)=false)∨∀ j,j < l.length→p (l.getD j default)=false:=by
 have key:∀ k,k≤l.length→(∃ r,r < l.length∧p (l.getD r default)=true∧∀ j,j < r→p (l.getD j default)=false)∨∀ j,j < k→p (l.getD j default)=false:=by
  intro k
  induction k with
  | zero=>intro _; right; intro j hj; omega
  | succ k ih=>
   intro hk
   rcases ih (by omega) with h | h
   ·exact .inl h
   ·cases hp:p (l.getD k default) with
    | true=>exact .inl ⟨k,by omega,hp,h⟩
    | false=>exact .inr (Bd h hp)
 exact key _ (Aw _)
def YM (p:Lo→Bool) (s:List Lo) (k:Nat):List Lo:=LN p s k++s.drop (LN p s k).length
theorem Ant (p:Lo→Bool) (s:List Lo) (k:Nat) (hk:k≤s.length):(YM p s k).length=s.length:=by
 have:=MP p s k
 simp only [YM,lx5,lx93]; omega
theorem Auw (p:Lo→Bool) (s:List Lo) (k:Nat):(YM p s k).getD k default=s.getD k default:=by
 have:=MP p s k
 rw [YM,lx80,lx62 this,lx20,lx80]
 congr 2; omega
theorem Aux (p:Lo→Bool) (s:List Lo) (k:Nat) (h:p (s.getD k default)=false):YM p s (k+1)=YM p s k:=by
 have e:LN p s (k+1)=LN p s k:=by rw [LN,h,if_neg (by decide)]
 rw [YM,YM,e]
theorem Anu (p:Lo→Bool) (s:List Lo) (k:Nat) (hk:k < s.length) (h:p (s.getD k default)=true):YM p s (k+1)=(YM p s k).set (LN p s k).length (s.getD k default):=by
 have hl:=MP p s k
 have e:LN p s (k+1)=LN p s k++[s.getD k default]:=by rw [LN,if_pos h]
 simp only [YM,e,lx5,lx53,lx63,B4]
 rw [lx119 _ _ (Aw _),OV]
 have hd:s.drop (LN p s k).length=s[(LN p s k).length]::s.drop ((LN p s k).length+1):=lx75 (by omega)
 rw [hd,lx117,lx4]; rfl
def dlS (p:Lo→Bool) (s:List Lo):List Lo:=s.filter (fun r=>!p r)++List.replicate (s.length - (s.filter (fun r=>!p r)).length) default
theorem Ajr (p:Lo→Bool) (s:List Lo) (h:∀ j,j < s.length→p (s.getD j default)=false):s.filter (fun r=>!p r)=s:=by
 rw [List.filter_eq_self]
 intro a ha
 obtain ⟨j,hj,rfl⟩:=lx69 ha
 have:=h j hj
 rw [lx80,lx51 hj,lx10] at this
 rw [this]; rfl
theorem Anv (p:Lo→Bool) (s:List Lo) (W:List Lo) (hW:W=s.filter fun r=>!p r) (z:AV) (hz:z=Bg default):
  List.take W.length ((W++s.drop W.length).map Bg)++List.replicate (s.length - W.length) z++List.drop (W.length+(s.length - W.length)) ((W++s.drop W.length).map Bg)=(dlS p s).map Bg:=by
 subst hW hz
 have hl:(s.filter fun r=>!p r).length≤s.length:=lx86 _ _
 rw [dlS,lx12,lx12,List.take_left' (by simp),List.map_replicate,List.drop_eq_nil_of_le (by simp),lx66]
theorem Nx (b0 b1 b2 b3 b4:Blk) (R:List Blk) (x y:Blk):JZ (b0::b1::b2::b3::b4::(R++[x,y])) (b0::b1::b2::b3::b4::(R++[x])):=by
 have:=Sv [y] (b0::b1::b2::b3::b4::(R++[x]))
 simpa only [lx91,lx4,lx64] using this
def KS (a:Int) (y:Lo):Bool:=y.mo == a
theorem Ajs (s:List Lo) (k a b d:Int) (t:ByteArray) (b0 b1 b2 b3:Blk) (R:List Blk) (u v cnt:Nat) (hs:s.length≤100000):
  HSpec Tryz.prog 206 [.sl 4 v 0 s.length,.fn 207 [.pt (R.length+1+1+1+1+1) u 0 0]] (b0::b1::b2::b3::⟨true,v,82,6,s.map Bg,false⟩::(R++[⟨true,u,73,5,[C6 ⟨k,a,b,d,t⟩],false⟩])) cnt
   (.sl 4 v 0 (s.filter fun r=>!KS a r).length) (b0::b1::b2::b3::⟨true,v,82,6,(dlS (KS a) s).map Bg,false⟩::(R++[⟨true,u,73,5,[C6 ⟨k,a,b,d,t⟩],false⟩])) (cnt+s.length):=by
 have e207':=fun y=>Bbi y ⟨k,a,b,d,t⟩
 obtain ⟨F232,k232,e232⟩:=Ip (Bbj Arm (KS a) [C6 ⟨k,a,b,d,t⟩] false s (fun y _=>Bbi y ⟨k,a,b,d,t⟩) (by omega))
 simp only [Dx,AA] at e207' e232
 refine Ag (Aj (lit:=false) (pm:=fun _=>none) (.cons k232 (.cons Arm .nil)) .nil .nil .nil) rfl Tryz.func206 rfl (by decide) (by kernel_rfl) ?_
 simp only [Tryz.f206,Af,lx53,lx63,Nat.reduceAdd,Nat.reduceSub,List.replicate]
 obtain ⟨n,hnn⟩:∃ n,s.length=n:=⟨_,rfl⟩
 rw [hnn] at hs ⊢
 have ht:List.take n (s.map Bg)=s.map Bg:=lx118 (by simp [hnn])
 refine Ab ?_
 rcases Ajq (KS a) s with ⟨r,hr,hp,hno⟩ | hno
 rotate_left
 ·have e1:=e232
  rw [Tx hno] at e1
  have hW:=Ajr (KS a) s hno
  have hD:dlS (KS a) s=s:=by rw [dlS,hW,OV]; simp
  rw [hW,hD,hnn]
  refine LR (a2 ht e1) ?_
  repeat' (first | exact Ac (by kernel_rfl) | refine ⟨Ac (by kernel_rfl),?_⟩ | refine And.intro ?_ ?_ | fail)
  all_goals first | exact .refl _ | exact .inl rfl | exact C8 _ _ _ | exact Nat.le_add_right _ _ | skip
  all_goals done
 have e1:=e232
 rw [Mj hr hp hno] at e1
 rw [hnn] at hr
 have c0:((r:Int) == -1)=false:=by rw [lx113]; omega
 have w0:IntKind.i64.wrap ((r:Int)+1)=((r+1:Nat):Int):=Ay
 have hA:=Ans (fun r=>!KS a r) s
 rw [hnn] at hA
 have hend:=Anv (KS a) s (LN (fun r=>!KS a r) s n) hA (.ag [.sc (.int .i64 0),.sc (.int .i64 0),.sc (.int .i64 0),.sc (.int .i64 0),.sc (.int .i64 0),.sc (.int .i64 0)]) rfl
 rw [←hA]
 have hL:=MP (fun r=>!KS a r) s
 have hDl:=Ant (fun r=>!KS a r) s
 have hDa:=Auw (fun r=>!KS a r) s
 have hDn:=Aux (fun r=>!KS a r) s
 have hDy:=Anu (fun r=>!KS a r) s
 have hK:∀ k,LN (fun r=>!KS a r) s (k+1)=if (!KS a (s.getD k default))=true then LN (fun r=>!KS a r) s k++[s.getD k default] else LN (fun r=>!KS a r) s k:=fun k=>rfl
 have hD0:YM (fun r=>!KS a r) s (r+1)=s∧(LN (fun r=>!KS a r) s (r+1)).length=r:=by
  have key:∀ k,k≤r→LN (fun r=>!KS a r) s k=s.take k:=by
   intro k
   induction k with
   | zero=>intro _; rfl
   | succ k ih=>
    intro hk
    rw [hK,ih (by omega),hno k (by omega),if_pos (show (!false)=true from rfl),lx115 (by omega)]
    rw [lx80,lx51 (by omega),lx10]
  have e:LN (fun r=>!KS a r) s (r+1)=s.take r:=by rw [hK,hp,if_neg (by decide),key r (Aw _)]
  have el:(s.take r).length=r:=by rw [lx68]; omega
  rw [YM,e,el]
  exact ⟨lx67 _ _,rfl⟩
 have hDd:YM (fun r=>!KS a r) s n=LN (fun r=>!KS a r) s n++s.drop (LN (fun r=>!KS a r) s n).length:=rfl
 rw [←hDd,hnn] at hend
 obtain ⟨W,hW⟩:∃ W,LN (fun r=>!KS a r) s=W:=⟨_,rfl⟩
 obtain ⟨D,hD⟩:∃ D,YM (fun r=>!KS a r) s=D:=⟨_,rfl⟩
 simp only [hW,hD,hnn] at hL hDl hDa hDn hDy hK hD0 hend ⊢
 clear hA hDd
 simp (maxSteps:=10000000) +contextual -implicitDefEqProofs only [AX,AW,St.put,Ao,Al,DN,pl,↓reduceIte,CO,Dx,Fw,lx5,lx11,ht,e1,c0,w0]
 refine Am (σ:=Nat × Nat) (fun y _=>⟨Bm 0 42 [(0,.sl 4 v 0 n),(1,.fn 207 [.pt (R.length+1+1+1+1+1) u 0 0]),(5,.sc (.int .i64 (W y.1).length)),(6,.sc (.int .i64 y.1))],b0::b1::b2::b3::⟨true,v,82,6,(D y.1).map Bg,false⟩::(R++[⟨true,u,73,5,[C6 ⟨k,a,b,d,t⟩],false⟩]),y.2⟩)
  (fun y=>r < y.1∧y.1≤n∧y.2+r+1≤cnt+y.1) (fun y=>n - y.1) (r+1,cnt) ⟨by simp,by omega,by simp; omega⟩ ?_ ?_ rfl ?_
 ·simp only [hD0.2]
  exact Ake
 ·simp only [hD0.1,Dx]
  exact AM _
 rintro ⟨j,c⟩ _ ⟨hk0,hk,hc⟩ ih
 simp only at hk0 hk hc
 have hLk:=hL j
 by_cases hk':j < n
 rotate_left
 ·obtain rfl:j=n:=by omega
  have h2:decide ((j:Int) < (j:Int))=false:=Bc
  have q1:decide ((0:Int)≤((W j).length:Int))=true:=Ae
  have q2:decide (((W j).length:Int)≤(j:Int))=true:=Ae
  refine Ab ?_
  refine BJ ?_
  refine LR (a3 h2 q2 hend) ?_
  repeat' (first | exact Ac (by kernel_rfl) | refine ⟨Ac (by kernel_rfl),?_⟩ | refine And.intro ?_ ?_ | fail)
  all_goals first | exact .refl _ | exact .inl rfl | exact C8 _ _ _ | exact Nat.le_of_lt (KQ (Nat.lt_succ_of_le (Nat.le_add_right c r)) hc) | skip
  all_goals done
 have h2:decide ((j:Int) < (n:Int))=true:=Ae
 have w1:IntKind.i64.wrap ((j:Int)+1)=((j+1:Nat):Int):=Ay
 have hDlk:=hDl j (by omega)
 have hDak:=hDa j
 have hDnk:=hDn j
 have hDyk:=hDy j hk'
 have hKk:=hK j
 have ih:=ih (j+1,c+1) (c+1) ⟨by omega,by omega,by omega⟩ (by omega)
 simp only at ih
 obtain ⟨⟨mo,la,⟨lv,on,off,si⟩⟩,hx⟩:∃ x,s.getD j default=x:=⟨_,rfl⟩
 have e5:=e207' ⟨mo,la,⟨lv,on,off,si⟩⟩
 simp only [Bb,AY] at e5
 have h3:decide (j < (D j).length)=true:=Ae
 have w2:IntKind.i64.wrap (((W j).length:Int)+1)=(((W j).length+1:Nat):Int):=Ay
 rw [hx] at hDak hDnk hDyk hKk
 cases hp:(mo == a) with
 | true=>
  have hp':KS a ⟨mo,la,⟨lv,on,off,si⟩⟩=true:=hp
  rw [hp'] at hDnk hKk
  rw [if_neg (by decide)] at hKk
  rw [hDnk rfl,hKk] at ih
  rw [hp] at e5
  refine Ab ?_
  refine BJ ?_
  refine LR (a5 h2 h3 w1 hDak e5) ?_
  refine Av ?_ ?_ (Aw _) ih
  ·exact Ake
  ·exact Nx _ _ _ _ _ _ _ _
 | false=>
  have hp':KS a ⟨mo,la,⟨lv,on,off,si⟩⟩=false:=hp
  rw [hp'] at hDyk hKk
  rw [if_pos (show (!false)=true from rfl)] at hKk
  rw [hDyk rfl,hKk] at ih
  rw [hp] at e5
  have hm:((D j).map Bg).set (W j).length (.ag [.sc (.int .i64 mo),.sc (.int .i64 la),.sc (.int .i64 lv),.sc (.int .i64 on),.sc (.int .i64 off),.sc (.int .i64 si)])=((D j).set (W j).length ⟨mo,la,⟨lv,on,off,si⟩⟩).map Bg:=Rp
  have h4:decide ((W j).length < (D j).length)=true:=Ae
  have q1:decide (((W j).length:Int) < (n:Int))=true:=Ae
  obtain ⟨y,hy⟩:∃ y,(D j).getD (W j).length default=y:=⟨_,rfl⟩
  refine Ab ?_
  refine BJ ?_
  refine LR (Gv h2 h3 h4 w1 w2 q1 hDak hy hm e5) ?_
  refine Av ?_ ?_ (Aw _) ih
  ·simp (maxSteps:=10000000) only [AX,AW,↓reduceIte,reduceCtorEq,Nat.reduceAdd,Nat.reduceEqDiff,Bm,D2,lx5]
   all_goals done
  ·exact Nx _ _ _ _ _ _ _ _
theorem S0 (c:Cd) (x:Cx) (mo i:Int) (se:Lm) (r:Ru) (h:SetQ mo r) (w e p f m:Nat) (R:List Blk) (cnt:Nat):
  ∃ m' cnt',HSpec Tryz.prog 208 [.pt 0 w 0 0,.sc (.int .i64 mo),.sc (.int .i64 i),lmA se] (DH c x r w e p f m R) cnt (.tu []) (DH c x (El r mo i se) w e p f m' R) cnt':=by
 cases hz:BV r.s.act mo with
 | false=>
  have e1:El r mo i se=r:=by rw [El,if_neg (by rw [hz]; simp)]
  rw [e1]
  exact ⟨m,_,Anr c x mo i se r h hz w e p f m R cnt⟩
 | true=>
  cases hh:MO ⟨mo,i,se⟩ r.s.lamps with
  | true=>exact ⟨m,_,Ajo c x mo i se r h hz hh w e p f m R cnt⟩
  | false=>exact ⟨_,_,Ajp c x mo i se r h hz hh w e p f m R cnt⟩
theorem Ajt (s:List Lo) (a:Int):(s.filter fun r=>!KS a r)=Ej s a:=rfl
theorem Ae7 (s:List Lo) (k a b d:Int) (t:ByteArray) (b0 b1 b2 b3:Blk) (R:List Blk) (u v cnt:Nat) (hs:s.length≤100000):
  HSpec Tryz.prog 206 [.sl 4 v 0 s.length,.fn 207 [.pt (R.length+1+1+1+1+1) u 0 0]] (b0::b1::b2::b3::⟨true,v,82,6,s.map Bg,false⟩::(R++[⟨true,u,73,5,[C6 ⟨k,a,b,d,t⟩],false⟩])) cnt
   (.sl 4 (cnt+s.length) 0 (Ej s a).length) (b0::b1::b2::b3::⟨true,cnt+s.length,82,6,(Ej s a).map Bg,false⟩::(R++[⟨true,u,73,5,[C6 ⟨k,a,b,d,t⟩],false⟩])) (cnt+s.length+1):=by
 have h:=(Ajs s k a b d t b0 b1 b2 b3 R u v cnt hs).cut (B:=⟨true,v,82,6,(dlS (KS a) s).map Bg,false⟩) rfl rfl
 have e:List.take (s.filter fun r=>!KS a r).length ((dlS (KS a) s).map Bg)=(Ej s a).map Bg:=by
  rw [dlS,lx12,List.take_left' (by simp)]; rfl
 rw [Ajt] at h e
 rw [e] at h
 exact h
theorem Aju {n lo hi:Int} (h:lo≤hi):min (max n lo) hi=CU n lo hi:=by unfold CU; omega
structure PapQ (m:Int) (e:Ef) (r:Ru):Prop extends AppQ m e r where
 so:HP r.s.lamps
 le:r.s.lamps.length≤90000
theorem pW {P:Prop} (h:P:=by
 refine Ag (Aj (lit:=true) (pm:=fun _=>none) (.cons Arl (.cons Adf .nil)) .nil .nil .nil) rfl Tryz.func158 rfl (by decide) (by kernel_rfl) ?_
 refine Axn ?_
 simp (maxSteps:=10000000) +contextual -implicitDefEqProofs only [AX,AW,Ap,St.put,Ao,Al,DN,pl,Array.toList,lx6,lx7,↓reduceIte,reduceCtorEq,Nat.reduceAdd,Nat.reduceLeDiff,Nat.reduceEqDiff,Nat.reduceMul,Int.reduceEq,Int.reduceNe,Int.reduceLE,Int.reduceLT,ne_eq,Nat.reduceBEq,Nat.reduceLT,eq_self,CK,lx8,Dd,OI,Int.reduceToNat,Nat.reduceSub,Int.reduceAdd,Int.reduceMul,Int.reduceSub,CO,E5,hl,Co,BU,Df,CJ,DD,Cu,Dn,Cw,Cm,DQ,DR,Bu,B7,CR,Cg,AS,Bs,BX,CY,CM,Dw,Bh,DU,Bk,DV,Dp,Cv,CN,Ch,DW,Es,DY,Ci,BZ,Cp,Hg,DZ,D0,Et,Eu,Dq,Jb,Jc,Ca,AA,AY,AN,Bb,HH,Dx,Aq,Aa,AP,Bl,QQ,norefs,AV.noref,Cn,CI,Int.reduceBNe,Int.reduceBEq,Fw,IV,QT,QU,Nq,dl1,dl2,dl3,lx4,lx5,lx11,Bx,L7,E58,u64,g1,onB,E205,i0,i1,i2,si,ge,tl,tm,hpo,tpo,Dl,Dg,lx12,lx2]
 repeat' (first | exact Ac (by kernel_rfl) | refine ⟨Ac (by kernel_rfl),?_⟩ | refine And.intro ?_ ?_ | fail)
 all_goals first | exact .refl _ | exact .inl rfl | exact C8 _ _ _ | skip
 all_goals done):P:=h
theorem pW2 {P:Prop} (h:P:=by
 simp only [DH,Oc,Bb,HH,Dx,lx91,lx64,lx4,lx53,lx5,lx63,lx11,lx117,Nat.reduceAdd,B4,Ua] at E
 refine Ag (Aj (lit:=true) (pm:=fun _=>none) (.cons Arl (.cons Adf .nil)) .nil .nil (.cons kF .nil)) rfl Tryz.func158 rfl (by decide) (by kernel_rfl) ?_
 refine Axn ?_
 simp (maxSteps:=10000000) +contextual -implicitDefEqProofs only [AX,AW,Ap,St.put,Ao,Al,DN,pl,Array.toList,lx6,lx7,↓reduceIte,reduceCtorEq,Nat.reduceAdd,Nat.reduceLeDiff,Nat.reduceEqDiff,Nat.reduceMul,Int.reduceEq,Int.reduceNe,Int.reduceLE,Int.reduceLT,ne_eq,Nat.reduceBEq,Nat.reduceLT,eq_self,CK,lx8,Dd,OI,Int.reduceToNat,Nat.reduceSub,Int.reduceAdd,Int.reduceMul,Int.reduceSub,CO,E5,hl,Co,BU,Df,CJ,DD,Cu,Dn,Cw,Cm,DQ,DR,Bu,B7,CR,Cg,AS,Bs,BX,CY,CM,Dw,Bh,DU,Bk,DV,Dp,Cv,CN,Ch,DW,Es,DY,Ci,BZ,Cp,Hg,DZ,D0,Et,Eu,Dq,Jb,Jc,Ca,AA,AY,AN,Bb,HH,Dx,Aq,Aa,AP,Bl,QQ,norefs,AV.noref,Cn,CI,Int.reduceBNe,Int.reduceBEq,Fw,IV,QT,QU,Nq,dl1,dl2,dl3,lx4,lx5,lx11,Bx,L7,E58,u64,g1,Ua,E205,E,tl,tm,hpo,tpo,Dl,Dg,lx12,lx2]
 repeat' (first | exact Ac (by kernel_rfl) | refine ⟨Ac (by kernel_rfl),?_⟩ | refine And.intro ?_ ?_ | fail)
 all_goals first | exact .refl _ | exact .inl rfl | exact C8 _ _ _ | skip
 all_goals done):P:=h
theorem Ae8 (c:Cd) (x:Cx) (m:Int) (f:Ef) (r:Ru) (h:PapQ m f r) (w e p fv mv:Nat) (R:List Blk) (cnt:Nat):
  ∃ p' m' cnt',HSpec Tryz.prog 158 [.pt 0 w 0 0,.sc (.int .i64 m),C6 f] (DH c x r w e p fv mv R) cnt (.tu []) (DH c x (CH x m f r) w e p' fv m' R) cnt':=by
 obtain ⟨⟨h1,h2,h3,h4,h5,h6⟩,h7,h8⟩:=h
 obtain ⟨⟨zv,vars,zl,left,act,zm,lamps,fau⟩,ef,po⟩:=r
 obtain ⟨k,a,b,d,t⟩:=f
 simp only at h1 h2 h4 h5 h6 h7 h8
 have tl:(left.map (kA .i64)).take left.length=left.map (kA .i64):=lx118 (by simp)
 have tm:(lamps.map Bg).take lamps.length=lamps.map Bg:=lx118 (by simp)
 have hpo:decide ((po.length+1) * 24≤140737488355328)=true:=Ae
 have tpo:(po.map CV).take po.length=po.map CV:=lx118 (by simp)
 have E58:=fun a h=>e58 ⟨false,vars,false,left,act,false,lamps,fau⟩ a h
 simp only [Aq] at E58
 have E205:=fun lo hi (h:lo≤hi) b=>Aju (n:=b) h ▸ Bg9 b lo hi
 have n:=trivial
 obtain ⟨u64,g1,i0,i1,i2,si,ge⟩:True∧True∧True∧True∧True∧True∧True:=⟨n,n,n,n,n,n,n⟩
 by_cases k1:k=21∨k=22
 ·obtain ⟨g1,g2⟩:=h1 k1
  have i0:decide (0≤a)=true:=by rw [AR]; exact g1
  have i1:decide (a < (left.length:Int))=true:=by rw [AR]; exact g2
  have i2:decide (a.toNat < left.length)=true:=Ae
  have si:∀ v:Int,(left.map (kA .i64)).set a.toNat (.sc (.int .i64 v))=(left.set a.toNat v).map (kA .i64):=fun v=>by rw [List.map_set]; rfl
  have ge:(left.map (kA .i64))[a.toNat]?=some (.sc (.int .i64 (left[a.toNat]'(by omega)))):=by rw [lx23,lx51 (by omega)]; rfl
  have E205:=E205 0 2147483647 (by decide)
  rcases k1 with rfl | rfl
  ·simp only [CH,Int.reduceEq,↓reduceIte]
   exact ⟨p,mv,cnt+1,pW⟩
  ·simp only [CH,Int.reduceEq,↓reduceIte]
   have:CU 0 0 2147483647=0:=rfl
   rw [this]
   exact ⟨p,mv,cnt+1,pW⟩
 by_cases k2:k=23∨k=24
 ·obtain ⟨g1,g2⟩:=h2 k2
  have u64:IntKind.u64.wrap a=a:=D6 (by omega) (by omega)
  have E58:=E58 a ⟨by omega,by omega⟩
  cases hz:BV act a with
  | true=>
   rw [hz] at E58
   rcases k2 with rfl | rfl
   ·simp only [CH,hz,Int.reduceEq,↓reduceIte]
    exact ⟨p,mv,cnt+1,pW⟩
   simp only [CH,hz,Int.reduceEq,↓reduceIte]
   obtain ⟨F,kF,E⟩:=Dz (Ae7 lamps 24 a b d t (Oc c x ⟨⟨zv,vars,zl,left,Ua act a,zm,lamps,fau⟩,ef,po⟩ w e p fv mv) ⟨true,e,73,5,ef.map C6,false⟩ ⟨true,p,46,3,po.map CV,false⟩ ⟨true,fv,3,1,left.map (kA .i64),false⟩ R cnt mv (cnt+1) (by omega))
   exact ⟨cnt+1+lamps.length+1+1,cnt+1+lamps.length,cnt+1+lamps.length+1+1+1,pW2⟩
  | false=>
   rw [hz] at E58
   rcases k2 with rfl | rfl
   ·simp only [CH,hz,Int.reduceEq,↓reduceIte,Dt]
    exact ⟨cnt+1+1,mv,cnt+1+1+1,pW⟩
   simp only [CH,hz,Int.reduceEq,↓reduceIte,Dt]
   exact ⟨p,mv,cnt+1,pW⟩
 by_cases k25:k=25
 ·subst k25
  simp only [CH,Int.reduceEq,↓reduceIte]
  exact ⟨cnt+1+1,mv,cnt+1+1+1,pW⟩
 by_cases k19:k=19
 ·subst k19
  have E205:=E205 0 8 (by decide)
  obtain ⟨m',c',hs⟩:=S0 c x m a ⟨CU b 0 8,0,0,0⟩ ⟨⟨zv,vars,zl,left,act,zm,lamps,fau⟩,ef,po⟩ ⟨h3,h7,h8⟩ w e p fv mv (R++[⟨true,cnt,73,5,[C6 ⟨19,a,b,d,t⟩],false⟩]) (cnt+1)
  exact Aws
 by_cases k20:k=20
 ·subst k20
  have E205:=E205 1 1000 (by decide)
  obtain ⟨m',c',hs⟩:=S0 c x m a ⟨8,CU b 1 1000,CU d 1 1000,x.ti⟩ ⟨⟨zv,vars,zl,left,act,zm,lamps,fau⟩,ef,po⟩ ⟨h3,h7,h8⟩ w e p fv mv (R++[⟨true,cnt,73,5,[C6 ⟨20,a,b,d,t⟩],false⟩]) (cnt+1)
  exact Aws
 simp only [not_or] at k1 k2
 have E58:=And.intro (lx113.2 k1.1) (And.intro (lx113.2 k1.2) (And.intro (lx113.2 k2.1) (And.intro (lx113.2 k2.2) (And.intro (lx113.2 k25) (And.intro (lx113.2 k19) (lx113.2 k20))))))
 simp only [CH,k1,k2,k25,k19,k20,↓reduceIte]
 exact ⟨p,mv,cnt+1,pW⟩
end Go.Proofs.YtdjpkhjaibdogaaGreat
